/- The walks of cO: Make, Fraction. -/
import Derived.Test.YtjonjhcaniinaaaGreatDoorZ7
set_option linter.all false
set_option maxRecDepth 100000
set_option maxHeartbeats 8000000
namespace Go.Proofs.Ins
open Go.RowKit
theorem Pn (ax ay:Option Addr) (lx ly cx cy x y:Nat) (w:World) (hX:Limbs w ax lx x) (hY:Limbs w ay ly y) (hlt:x<y) (h0:lx≤1073741824) (h1:lx≤cx) (h2:cx≤9223372036854775807) (h3:ly≤4294967296) :
  Calls Tryz.prog 176 #[.slice ax lx cx,.slice ay ly cy] w (xw w x y):=by
 have HX:=jx hX
 have HY:=jx hY
 have HL:=jx hlt
 have hcm:decide (kS x y<0)=true:=by rw [nR hlt];rfl
 clear hX hY hlt
 go_enter Tryz.func176,Tryz.ntmps176
 go_wp2_with fail
 refine (Es _ _ _ _ _ _ _ _ _ HX.out HY.out jb jb).mono ?_
 rintro e w3 ⟨rfl,hb3⟩
 have hb:=jx hb3
 clear hb3
 go_wp2
 go_ret2
 refine ⟨none,0,0,ax,lx,cx,rfl,jb,jb,h1,h2,?_,?_,hb.out⟩
 ·rw [Nat.div_eq_of_lt HL.out];exact Nw _
 ·rw [Nat.mod_eq_of_lt HL.out];exact HX.out.below hb.out jp
theorem LZ (ax ay:Option Addr) (lx cx cy x y:Nat) (w:World) (hX:Limbs w ax lx x) (hY:Limbs w ay 1 y) (hle:y≤x) (h1:lx≤1073741824) :
  Calls Tryz.prog 176 #[.slice ax lx cx,.slice ay 1 cy] w (xw w x y):=by
 have hcm:decide (kS x y<0)=false:=by unfold kS;rw [if_neg jb];split <;> rfl
 have hy0:0<y:=by
  rcases Nat.eq_zero_or_pos y with e|e
  ·have:=hY.iK.mp e;omega
  ·exact e
 have hlx:0<lx:=by
  rcases Nat.eq_zero_or_pos lx with e|e
  ·have:=hX.iK.mpr e;omega
  ·exact e
 have HX:=jx hX
 have HY:=jx hY
 clear hX hY hle
 go_enter Tryz.func176,Tryz.ntmps176
 go_wp2_with fail
 refine (Es _ _ _ _ _ _ _ _ _ HX.out HY.out jb jb).mono ?_
 rintro e w3 ⟨rfl,hb3⟩
 have HX3:=HX.out.below hb3 jp
 have HY3:=HY.out.below hb3 jp
 obtain ⟨fx,ex,kx,rx⟩:=HX3
 obtain ⟨fy,ey,ky,ry⟩:=HY3
 rcases rx with h0|⟨b1,o1,rfl,rx⟩
 ·omega
 rcases ry with h0|⟨b2,o2,rfl,ry⟩
 ·omega
 have hcell:=ry 0 jb
 have hy1:fy 0=y:=by rw [← ey];simp [lv]
 have hyl:y<LB:=by rw [← hy1];exact ky.1 0 jb
 rw [hy1,Nat.add_zero] at hcell
 have RX:=jx rx
 have KX:=jx kx
 have EX:=jx ex
 have hb:=jx hb3
 clear rx ry kx ky ex ey hy1 hb3 HX HY
 go_wp2_with fail
 refine (short_walk _ _ _ _ _ _ _ h1 RX.out KX.out.1 hy0 hyl hlx).mono ?_
 rintro e w4 ⟨aq,lq,cq,rfl,g1,g2,g3,g4⟩
 rw [EX.out] at g3 ⊢
 have G3:=jx g3
 have G4:=jx g4
 clear g3 g4
 have hr:x%y<LB:=Nat.lt_trans (Nat.mod_lt _ hy0) hyl
 have hrow:=row_one w4 138 (x%y)
 generalize hR:x%y=R at *
 have HR:=jx hR
 have lU:=jx hrow
 clear hR hrow
 have hlv:lv (fun _=>R) 1=R:=by simp [lv]
 have HLV:=jx hlv
 clear hlv
 go_wp2_with fail
 refine (Ny w4 w4.heap.size 1 138 (fun _=>R) _ jb lU.out (fun _ _=>hr) ((Below.refl _ _).alloc jp _)).mono ?_
 rintro e w5 ⟨ar,lr,cr,rfl,k1,k2,k3,k4⟩
 rw [HLV.out] at k3
 have K3:=jx k3
 have K4:=jx k4
 clear k3 k4
 go_wp2
 go_ret2
 refine ⟨aq,lq,cq,ar,lr,cr,rfl,g1,g2,k1,k2,G3.out.below K4.out jp,?_,?_⟩
 ·rw [HR.out];exact K3.out
 ·exact hb.out.trans ((G4.out.mono hb.out.size).trans (K4.out.mono (Nat.le_trans hb.out.size G4.out.size)))
def FU:Prop:=∀ (ax ay:Option Addr) (lx ly cx cy x y:Nat) (w:World),Limbs w ax lx x→Limbs w ay ly y→y≤x→lx≤1073741824→2≤ly →
  Calls Tryz.prog 195 #[.slice ax lx cx,.slice ay ly cy] w (xw w x y)
theorem Po (hL:FU) (ax ay:Option Addr) (lx ly cx cy x y:Nat) (w:World) (hX:Limbs w ax lx x) (hY:Limbs w ay ly y) (hle:y≤x) (h1:lx≤1073741824) (hly:2≤ly) (h4:ly≤1073741824) :
  Calls Tryz.prog 176 #[.slice ax lx cx,.slice ay ly cy] w (xw w x y):=by
 have hcm:decide (kS x y<0)=false:=by unfold kS;rw [if_neg jb];split <;> rfl
 have hl1:((ly:Int) == 1)=false:=by simp;omega
 have HX:=jx hX
 have HY:=jx hY
 have HLE:=jx hle
 have HLo:=jx hL
 clear hX hY hle hL
 go_enter Tryz.func176,Tryz.ntmps176
 go_wp2_with fail
 refine (Es _ _ _ _ _ _ _ _ _ HX.out HY.out jb jb).mono ?_
 rintro e w3 ⟨rfl,hb3⟩
 have HX3:=jx (HX.out.below hb3 jp)
 have HY3:=jx (HY.out.below hb3 jp)
 have hb:=jx hb3
 clear hb3 HX HY
 go_wp2_with fail
 refine (HLo.out _ _ _ _ _ _ _ _ _ HX3.out HY3.out HLE.out h1 hly).mono ?_
 rintro e w4 ⟨aq,lq,cq,ar,lr,cr,rfl,g1,g2,g3,g4,g5,g6,g7⟩
 have G5:=jx g5
 have G6:=jx g6
 have G7:=jx (chain hb.out g7 jp)
 clear g5 g6 g7
 go_wp2
 go_ret2
 exact ⟨aq,lq,cq,ar,lr,cr,rfl,g1,g2,g3,g4,G5.out,G6.out,G7.out⟩
theorem yH (ax ay:Option Addr) (lx ly cx cy x y:Nat) (w:World) (hL:FU∨x<y∨ly≤1) (hX:Limbs w ax lx x) (hY:Limbs w ay ly y) (hy:0<y) (h1:lx≤1073741824) (h2:lx≤cx) (h3:cx≤9223372036854775807) (h4:ly≤1073741824) :
  Calls Tryz.prog 176 #[.slice ax lx cx,.slice ay ly cy] w (xw w x y):=by
 have hly:0<ly:=by
  rcases Nat.eq_zero_or_pos ly with e|e
  ·have:=hY.iK.mpr e;omega
  ·exact e
 by_cases hlt:x<y
 ·exact Pn ax ay lx ly cx cy x y w hX hY hlt h1 h2 h3 jb
 ·by_cases h5:ly=1
  ·subst h5;exact LZ ax ay lx cx cy x y w hX hY jb h1
  ·exact Po (hL.resolve_right jb) ax ay lx ly cx cy x y w hX hY jb h1 jb h4
def nT (w:World) (a:Option Addr) (l c x:Nat):Prop:=l≤c∧c≤9223372036854775807∧l≤1073741824∧Limbs w a l x
theorem dX.lim {w w' : World} {a:Option Addr} {l x k:Nat} (h:Limbs w' a l x) (hx:x<256 ^ k) (hk:k≤1073741824):l≤(k+3)/4:=by
 refine h.AZ ?_
 rw [Eh]
 exact Nat.lt_of_lt_of_le hx (Nat.pow_le_pow_right jb jb)
def ak8 (w wr:World) (G:Nat) (k:Nat) (vx vy:Value):Prop :=
 ∃ ax lx cx ay ly cy X,vx = .slice ax lx cx∧vy = .slice ay ly cy∧lx≤cx∧cx≤9223372036854775807∧lx≤1073741824∧ly≤cy∧cy≤9223372036854775807∧ly≤1073741824∧Limbs wr ax lx X∧Limbs wr ay ly k∧Nat.gcd X k=G∧Below w.heap.size w wr∧(FU∨X<256 ^ 4∨k<256 ^ 4)
theorem Wn (ax ay:Option Addr) (lx ly cx cy x y:Nat) (w:World) (hL:FU∨x<256 ^ 4) (h1:nT w ax lx cx x) (h2:nT w ay ly cy y) :
  Calls Tryz.prog 175 #[.slice ax lx cx,.slice ay ly cy] w (dX w (Nat.gcd x y)):=by
 have hstart:ak8 w w (Nat.gcd x y) y (.slice ax lx cx) (.slice ay ly cy) :=
  ⟨ax,lx,cx,ay,ly,cy,x,rfl,rfl,h1.1,h1.2.1,h1.2.2.1,h2.1,h2.2.1,h2.2.2.1,h1.2.2.2,h2.2.2.2,rfl,Below.refl _ _,hL.imp_right .inl⟩
 have HS:=jx hstart
 clear h1 h2 hstart hL
 go_enter Tryz.func175,Tryz.ntmps175
 go_wp2_with fail
 go_loopg [0,1] y (fun k vx vy wr=>ak8 w wr (Nat.gcd x y) k vx vy)
 case atStart=>exact HS.out
 case round =>
  obtain ⟨ax,lx,cx,ay,ly,cy,X,rfl,rfl,h1,h2,h3,h4,h5,h6,hX,hY,hg,hbel,hS⟩:=hrel
  clear HS
  have HX:=jx hX
  have HY:=jx hY
  have HG:=jx hg
  have HB:=jx hbel
  have HC:=jx hS
  clear hS
  by_cases h0:ly=0
  ·as_aux_lemma =>
   subst h0
   have hk:=hY.iK.mpr rfl
   have HK:=jx hk
   clear hk hX hY hg hbel
   go_wp2_with fail
   go_ret
   refine ⟨ax,lx,cx,rfl,h1,h2,?_,HB.out⟩
   have:=HG.out
   rw [HK.out,Nat.gcd_zero_right] at this
   rw [← this];exact HX.out
  ·as_aux_lemma =>
   have hk:0<gk:=by
    rcases Nat.eq_zero_or_pos gk with e|e
    ·have:=hY.iK.mp e;omega
    ·exact e
   have hl0:decide ((0:Int)<(ly:Int))=true:=by simp;omega
   clear hX hY hg hbel
   go_wp2_with fail
   refine (yH _ _ _ _ _ _ _ _ _ (by
    rcases HC.out with h|h|h
    ·exact .inl h
    ·by_cases h' : gk<256 ^ 4
     ·exact .inr (.inr (dX.lim (w:=w) HY.out h' jb))
     ·exact .inr (.inl jb)
    ·exact .inr (.inr (dX.lim (w:=w) HY.out h jb))) HX.out HY.out hk h3 h1 h2 h6).mono ?_
   rintro e w3 ⟨aq,lq,cq,ar,lr,cr,rfl,g1,g2,g3,g4,g5,g6,g7⟩
   have hlr:lr≤ly:=g6.AZ (Nat.lt_trans (Nat.mod_lt _ hk) HY.out.lt)
   have hnew:ak8 w w3 (Nat.gcd x y) (X%gk) (.slice ay ly cy) (.slice ar lr cr) :=
    ⟨ay,ly,cy,ar,lr,cr,gk,rfl,rfl,h4,h5,h6,g3,g4,jb,HY.out.below g7 jp,g6,by rw [← HG.out,Nat.gcd_comm X gk,Nat.gcd_rec gk X,Nat.gcd_comm],HB.out.trans (g7.mono HB.out.size),HC.out.imp_right fun h=>h.elim (fun h=>.inr (Nat.lt_of_le_of_lt (Nat.mod_le _ _) h)) .inl⟩
   have HN:=jx hnew
   have HML:=jx (Nat.mod_lt X hk)
   clear hnew g5 g6 g7
   go_wp2_with fail
   go_roundg (X%gk)
   case measure=>exact HML.out
   case rel=>exact HN.out


theorem Limbs.shape {w:World} {a:Option Addr} {l x:Nat} (h:Limbs w a l x) (hx:0<x) :
  (l=1∧x<LB∧∃ b o,a=some ⟨b,o,none⟩∧w.cell? ⟨b,o,none⟩=some (.int .u32 (x:Int)))∨(1<l∧1<x):=by
 obtain ⟨f,rfl,h2,h3⟩:=h
 have hl:0<l:=by
  rcases Nat.eq_zero_or_pos l with e|e
  ·subst e;exact absurd hx (Nat.lt_irrefl 0)
  ·exact e
 by_cases h1:l=1
 ·subst h1
  have e:lv f 1=f 0:=by simp [lv]
  rw [e]
  rcases h3 with h3|⟨b,o,rfl,hr⟩
  ·omega
  ·refine .inl ⟨rfl,h2.1 0 jb,b,o,rfl,?_⟩
   have:=hr 0 jb
   rwa [Nat.add_zero] at this
 ·right
  refine ⟨jb,?_⟩
  have:=h2.ge hl
  have h5:LB ^ 1≤LB ^ (l - 1):=Nat.pow_le_pow_right iU jb
  rw [Nat.pow_one] at h5
  unfold LB at h5 this
  omega
theorem Gp {x y:Nat} (hx:0<x) (hy:0<y):0<Nat.gcd x y∧0<x/Nat.gcd x y∧0<y/Nat.gcd x y :=
 ⟨Nat.gcd_pos_of_pos_left _ hx,Nat.div_pos (Nat.gcd_le_left y hx) (Nat.gcd_pos_of_pos_left y hx),Nat.div_pos (Nat.gcd_le_right x hy) (Nat.gcd_pos_of_pos_left y hx)⟩
theorem L6 (neg:Bool) (ax ay:Option Addr) (cx ly cy:Nat) (w:World) :
  Calls Tryz.prog 152 #[.bool neg,.slice ax 0 cx,.slice ay ly cy] w fun e w'=>e = .returned (rv 0)∧Below w.heap.size w w':=by
 go_enter Tryz.func152,Tryz.ntmps152
 go_wp2
 exact bodyPost_ret (v:=rv 0) (by simp [results,Tryz.results152,go_sem,rv,Ci,Cj,Cm]) rfl ⟨rfl,(Below.refl _ _).alloc jp _⟩
theorem Pq (neg:Bool) (ax ay:Option Addr) (lx ly cx cy x y k:Nat) (w:World) (hL:FU∨x<256 ^ 4) (h1:nT w ax lx cx x) (h2:nT w ay ly cy y) (hx:0<x) (hy:0<y) (kx:x<256 ^ k) (ky:y<256 ^ k) (hk:k≤1073741820) :
  Calls Tryz.prog 152 #[.bool neg,.slice ax lx cx,.slice ay ly cy] w fun e w'=>e = .returned (rv (fr neg x y))∧Below w.heap.size w w':=by
 rw [SG hx hy]
 obtain ⟨g0,n0,d0⟩:=Gp hx hy
 have kn:x/Nat.gcd x y<256 ^ k:=Nat.lt_of_le_of_lt (Nat.div_le_self _ _) kx
 have kd:y/Nat.gcd x y<256 ^ k:=Nat.lt_of_le_of_lt (Nat.div_le_self _ _) ky
 have kg:Nat.gcd x y<256 ^ k:=Nat.lt_of_le_of_lt (Nat.gcd_le_left _ hx) kx
 have hlx:0<lx:=by
  rcases Nat.eq_zero_or_pos lx with e|e
  ·have:=h1.2.2.2.iK.mpr e;omega
  ·exact e
 have hq1:Nat.gcd x y=1→x/Nat.gcd x y=x∧y/Nat.gcd x y=y:=fun e=>by rw [e,Nat.div_one,Nat.div_one];exact ⟨rfl,rfl⟩
 have hLg : ∀ w (ag:Option Addr) lg,Limbs w ag lg (Nat.gcd x y)→FU∨lg≤1:=fun w ag lg h=>hL.imp_right fun h2=>dX.lim (w:=w) h (Nat.lt_of_le_of_lt (Nat.gcd_le_left _ hx) h2) jb
 have HCM:=jx (fun w (h1:nT w ax lx cx x) (h2:nT w ay ly cy y)=>Wn ax ay lx ly cx cy x y w hL h1 h2)
 have HDX:=jx (fun w ag lg cg (h1:nT w ax lx cx x) (h2:nT w ag lg cg (Nat.gcd x y))=>yH ax ag lx lg cx cg x (Nat.gcd x y) w ((hLg w ag lg h2.2.2.2).imp_right .inr) h1.2.2.2 h2.2.2.2 g0 h1.2.2.1 h1.1 h1.2.1 h2.2.2.1)
 have HDY:=jx (fun w ag lg cg (h1:nT w ay ly cy y) (h2:nT w ag lg cg (Nat.gcd x y))=>yH ay ag ly lg cy cg y (Nat.gcd x y) w ((hLg w ag lg h2.2.2.2).imp_right .inr) h1.2.2.2 h2.2.2.2 g0 h1.2.2.1 h1.1 h1.2.1 h2.2.2.1)
 have HN:=jx h1
 have HM:=jx h2
 have HQ1:=jx hq1
 have KN:=jx kn
 have KD:=jx kd
 have KG:=jx kg
 clear h1 h2 kn kd kg kx ky hq1 hLg hL
 generalize hNe:x/Nat.gcd x y=N at *
 generalize hDe:y/Nat.gcd x y=D at *
 generalize Nat.gcd x y=G at *
 have HNE:=jx hNe
 have HDE:=jx hDe
 clear hNe hDe
 generalize hT:(if D=1 then (⟨#[]⟩:ByteArray) else bn D)=T
 have HT:=jx hT
 clear hT
 go_enter Tryz.func152,Tryz.ntmps152
 go_wp2_with fail
 have z0:=(Below.refl w.heap.size w).alloc jp (.cells #[.bool false,.string ⟨#[]⟩,.string ⟨#[]⟩] 42)
 have A1:nT (w.alloc (.cells #[.bool false,.string ⟨#[]⟩,.string ⟨#[]⟩] 42)) ax lx cx x:=⟨HN.out.1,HN.out.2.1,HN.out.2.2.1,HN.out.2.2.2.below z0 jp⟩
 have A2:nT (w.alloc (.cells #[.bool false,.string ⟨#[]⟩,.string ⟨#[]⟩] 42)) ay ly cy y:=⟨HM.out.1,HM.out.2.1,HM.out.2.2.1,HM.out.2.2.2.below z0 jp⟩
 refine (HCM.out _ A1 A2).mono ?_;rintro e w3 ⟨ag,lg,cg,rfl,lcg,ccg,hG,hb3⟩
 have llg:=dX.lim (w:=w) hG KG.out jb
 have B1:=jx (show nT w3 ax lx cx x from ⟨A1.1,A1.2.1,A1.2.2.1,A1.2.2.2.below hb3 jp⟩)
 have B2:=jx (show nT w3 ay ly cy y from ⟨A2.1,A2.2.1,A2.2.2.1,A2.2.2.2.below hb3 jp⟩)
 have B3:=jx (show nT w3 ag lg cg G from ⟨lcg,ccg,jb,hG⟩)
 have hsh:=hG.shape g0
 have HR:=jx (fZ hb3).1
 have HB:=jx (fZ hb3).2
 clear hb3 hG A1 A2 HCM HN HM z0
 rcases hsh with ⟨rfl,hgl,bg,og,rfl,cg0⟩|⟨hlg,hg1⟩
 ·by_cases hg1:G=1
  ·as_aux_lemma =>
   obtain ⟨e1,e2⟩:=HQ1.out hg1
   have M1:=jx (show nT w3 ax lx cx N by rw [e1];exact B1.out)
   have M2:=jx (show nT w3 ay ly cy D by rw [e2];exact B2.out)
   rw [hg1] at cg0
   replace cg0:w3.cell? ⟨bg,og,none⟩=some (.int .u32 1):=cg0
   clear e1 e2 HQ1 B1 B2 B3 HDX HDY hg1
   obtain ⟨u1,u2,u3,hN⟩:=M1.out
   obtain ⟨v1,v2,v3,hD⟩:=M2.out
   have ln:=dX.lim (w:=w) hN KN.out jb
   have ld:=dX.lim (w:=w) hD KD.out jb
   have HNN:=jx hN
   have HDD:=jx hD
   clear hN hD
   go_wp2_with fail
   refine (lM _ _ _ _ _ HNN.out jb u1).mono ?_;rintro e w6 ⟨rfl,hb6⟩
   have SV:=jx (HR.out.on hb6)
   have V3:=jx (chain HB.out hb6 jp)
   have hD6:=HDD.out.below hb6 jp
   have HD6:=jx hD6
   have hsd:=hD6.shape d0
   clear hb6 hD6 HR HB HNN HDD
   have z6:=SV.out.lt
   rcases hsd with ⟨rfl,hdl,bd,od,rfl,cd⟩|⟨hld,hd1⟩
   ·have zd:=block_lt_of_cell cd
    have cd2:=((Below.refl w6.heap.size w6).alloc jp (.cells #[.bool neg,.string (bn N),.string ⟨#[]⟩] 42)).cell (p:=⟨bd,od,none⟩) zd
    by_cases hd1:D=1
    ·as_aux_lemma =>
     subst hd1
     have hT:=HT.out
     rw [if_pos rfl] at hT
     subst hT
     replace cd:w6.cell? ⟨bd,od,none⟩=some (.int .u32 1):=cd
     rw [cd] at cd2
     obtain ⟨a0,a1,a2,a3,a4,a5⟩:=SV.out.bC
     go_wp2
     have q9:=aQ V3.out jp (.bool neg) (.string (bn N)) (.string ⟨#[]⟩)
     refine aC (fun W=>bY W w.heap.size #[.bool neg,.string (bn N),.string ⟨#[]⟩]∧Below w.heap.size w W) ⟨by exact (bY.jE SV.out _ _ _).alloc _,by exact q9.alloc q9.size _⟩ ?_
     rintro WR ⟨jk,bD⟩
     obtain ⟨y90,y91,jM,-,-,-⟩:=jk.bC
     exact bodyPost_ret (v:=.agg #[.bool neg,.string (bn N),.string ⟨#[]⟩]) (by simp [results,Tryz.results152,go_sem,y90,y91,jM]) rfl ⟨rfl,bD⟩
    ·as_aux_lemma =>
     have hT:=HT.out
     rw [if_neg hd1] at hT
     subst hT
     rw [cd] at cd2
     have hd2:(1:Int)<(D:Int):=jb
     have hd3:(D:Int)≤4294967295:=by unfold LB at hdl;omega
     clear hd1
     go_wp2_with fail
     refine (lM _ _ _ _ _ (HD6.out.below ((Below.refl w6.heap.size w6).alloc jp _) jp) jb v1).mono ?_;rintro e w7 ⟨rfl,hb7⟩
     have R7:=jx ((SV.out.alloc _).on hb7)
     have S7:=jx ((bY.new w6 #[.bool neg,.string (bn N),.string ⟨#[]⟩] 42).on hb7)
     have B7:=jx (chain (V3.out.alloc jb _) hb7 jp)
     obtain ⟨a0,a1,a2,a3,a4,a5⟩:=R7.out.bC
     obtain ⟨b0,b1,b2,b3,b4,b5⟩:=S7.out.bC
     have hne:w6.heap.size≠w.heap.size:=jb
     clear hb7
     go_wp2
     refine aC (fun W=>bY W w.heap.size #[.bool neg,.string (bn N),.string (bn D)]∧Below w.heap.size w W) ⟨by exact bY.jE (R7.out.setOther _ _ (by exact hne.symm)) _ _ _,aQ (B7.out.setCell (by exact Nat.le_of_lt z6) _) jp _ _ _⟩ ?_
     rintro WR ⟨jk,bD⟩
     obtain ⟨y90,y91,jM,-,-,-⟩:=jk.bC
     exact bodyPost_ret (v:=.agg #[.bool neg,.string (bn N),.string (bn D)]) (by simp [results,Tryz.results152,go_sem,y90,y91,jM]) rfl ⟨rfl,bD⟩
   ·as_aux_lemma =>
     have hd2:(1:Int)<(ly:Int):=jb
     have hT:=HT.out
     rw [if_neg jb] at hT
     subst hT
     go_wp2_with fail
     refine (lM _ _ _ _ _ (HD6.out.below ((Below.refl w6.heap.size w6).alloc jp _) jp) jb v1).mono ?_;rintro e w7 ⟨rfl,hb7⟩
     have R7:=jx ((SV.out.alloc _).on hb7)
     have S7:=jx ((bY.new w6 #[.bool neg,.string (bn N),.string ⟨#[]⟩] 42).on hb7)
     have B7:=jx (chain (V3.out.alloc jb _) hb7 jp)
     obtain ⟨a0,a1,a2,a3,a4,a5⟩:=R7.out.bC
     obtain ⟨b0,b1,b2,b3,b4,b5⟩:=S7.out.bC
     have hne:w6.heap.size≠w.heap.size:=jb
     clear hb7
     go_wp2
     refine aC (fun W=>bY W w.heap.size #[.bool neg,.string (bn N),.string (bn D)]∧Below w.heap.size w W) ⟨by exact bY.jE (R7.out.setOther _ _ (by exact hne.symm)) _ _ _,aQ (B7.out.setCell (by exact Nat.le_of_lt z6) _) jp _ _ _⟩ ?_
     rintro WR ⟨jk,bD⟩
     obtain ⟨y90,y91,jM,-,-,-⟩:=jk.bC
     exact bodyPost_ret (v:=.agg #[.bool neg,.string (bn N),.string (bn D)]) (by simp [results,Tryz.results152,go_sem,y90,y91,jM]) rfl ⟨rfl,bD⟩
  ·as_aux_lemma =>
   have hg2:(1:Int)<(G:Int):=jb
   have hg3:(G:Int)≤4294967295:=by unfold LB at hgl;omega
   clear hg1 HQ1
   go_wp2_with fail
   refine (HDX.out _ _ _ _ B1.out B3.out).mono ?_;rintro e w4 ⟨an,ln,cn,qn,l9,c9,rfl,g1,g2,g3,g4,g5,g6,g7⟩
   rw [HNE.out] at g5
   have lln:=dX.lim (w:=w) g5 KN.out jb
   have C1:=jx (show nT w4 an ln cn N from ⟨g1,g2,jb,g5⟩)
   have C2:=jx (show nT w4 ay ly cy y from ⟨B2.out.1,B2.out.2.1,B2.out.2.2.1,B2.out.2.2.2.below g7 jp⟩)
   have C3:=jx (show nT w4 (some ⟨bg,og,none⟩) 1 cg G from ⟨B3.out.1,B3.out.2.1,B3.out.2.2.1,B3.out.2.2.2.below g7 jp⟩)
   have R4:=jx (HR.out.on g7)
   have B4:=jx (chain HB.out g7 jp)
   clear g5 g6 g7 HR HB B1 B2 B3 HDX
   go_wp2_with fail
   refine (HDY.out _ _ _ _ C2.out C3.out).mono ?_;rintro e w5 ⟨adn,ldn,cdn,qd,l8,c8,rfl,g1',g2',g3',g4',g5,g6,g7⟩
   rw [HDE.out] at g5
   have lld:=dX.lim (w:=w) g5 KD.out jb
   have M1:=jx (show nT w5 an ln cn N from ⟨C1.out.1,C1.out.2.1,C1.out.2.2.1,C1.out.2.2.2.below g7 jp⟩)
   have M2:=jx (show nT w5 adn ldn cdn D from ⟨g1',g2',jb,g5⟩)
   have HR:=jx (R4.out.on g7)
   have HB:=jx (chain B4.out g7 jp)
   clear g5 g6 g7 R4 B4 C1 C2 C3 HDY
   obtain ⟨u1,u2,u3,hN⟩:=M1.out
   obtain ⟨v1,v2,v3,hD⟩:=M2.out
   have ln:=dX.lim (w:=w) hN KN.out jb
   have ld:=dX.lim (w:=w) hD KD.out jb
   have HNN:=jx hN
   have HDD:=jx hD
   clear hN hD
   go_wp2_with fail
   refine (lM _ _ _ _ _ HNN.out jb u1).mono ?_;rintro e w6 ⟨rfl,hb6⟩
   have SV:=jx (HR.out.on hb6)
   have V3:=jx (chain HB.out hb6 jp)
   have hD6:=HDD.out.below hb6 jp
   have HD6:=jx hD6
   have hsd:=hD6.shape d0
   clear hb6 hD6 HR HB HNN HDD
   have z6:=SV.out.lt
   rcases hsd with ⟨rfl,hdl,bd,od,rfl,cd⟩|⟨hld,hd1⟩
   ·have zd:=block_lt_of_cell cd
    have cd2:=((Below.refl w6.heap.size w6).alloc jp (.cells #[.bool neg,.string (bn N),.string ⟨#[]⟩] 42)).cell (p:=⟨bd,od,none⟩) zd
    by_cases hd1:D=1
    ·as_aux_lemma =>
     subst hd1
     have hT:=HT.out
     rw [if_pos rfl] at hT
     subst hT
     replace cd:w6.cell? ⟨bd,od,none⟩=some (.int .u32 1):=cd
     rw [cd] at cd2
     obtain ⟨a0,a1,a2,a3,a4,a5⟩:=SV.out.bC
     go_wp2
     have q9:=aQ V3.out jp (.bool neg) (.string (bn N)) (.string ⟨#[]⟩)
     refine aC (fun W=>bY W w.heap.size #[.bool neg,.string (bn N),.string ⟨#[]⟩]∧Below w.heap.size w W) ⟨by exact (bY.jE SV.out _ _ _).alloc _,by exact q9.alloc q9.size _⟩ ?_
     rintro WR ⟨jk,bD⟩
     obtain ⟨y90,y91,jM,-,-,-⟩:=jk.bC
     exact bodyPost_ret (v:=.agg #[.bool neg,.string (bn N),.string ⟨#[]⟩]) (by simp [results,Tryz.results152,go_sem,y90,y91,jM]) rfl ⟨rfl,bD⟩
    ·as_aux_lemma =>
     have hT:=HT.out
     rw [if_neg hd1] at hT
     subst hT
     rw [cd] at cd2
     have hd2:(1:Int)<(D:Int):=jb
     have hd3:(D:Int)≤4294967295:=by unfold LB at hdl;omega
     clear hd1
     go_wp2_with fail
     refine (lM _ _ _ _ _ (HD6.out.below ((Below.refl w6.heap.size w6).alloc jp _) jp) jb v1).mono ?_;rintro e w7 ⟨rfl,hb7⟩
     have R7:=jx ((SV.out.alloc _).on hb7)
     have S7:=jx ((bY.new w6 #[.bool neg,.string (bn N),.string ⟨#[]⟩] 42).on hb7)
     have B7:=jx (chain (V3.out.alloc jb _) hb7 jp)
     obtain ⟨a0,a1,a2,a3,a4,a5⟩:=R7.out.bC
     obtain ⟨b0,b1,b2,b3,b4,b5⟩:=S7.out.bC
     have hne:w6.heap.size≠w.heap.size:=jb
     clear hb7
     go_wp2
     refine aC (fun W=>bY W w.heap.size #[.bool neg,.string (bn N),.string (bn D)]∧Below w.heap.size w W) ⟨by exact bY.jE (R7.out.setOther _ _ (by exact hne.symm)) _ _ _,aQ (B7.out.setCell (by exact Nat.le_of_lt z6) _) jp _ _ _⟩ ?_
     rintro WR ⟨jk,bD⟩
     obtain ⟨y90,y91,jM,-,-,-⟩:=jk.bC
     exact bodyPost_ret (v:=.agg #[.bool neg,.string (bn N),.string (bn D)]) (by simp [results,Tryz.results152,go_sem,y90,y91,jM]) rfl ⟨rfl,bD⟩
   ·as_aux_lemma =>
     have hd2:(1:Int)<(ldn:Int):=jb
     have hT:=HT.out
     rw [if_neg jb] at hT
     subst hT
     go_wp2_with fail
     refine (lM _ _ _ _ _ (HD6.out.below ((Below.refl w6.heap.size w6).alloc jp _) jp) jb v1).mono ?_;rintro e w7 ⟨rfl,hb7⟩
     have R7:=jx ((SV.out.alloc _).on hb7)
     have S7:=jx ((bY.new w6 #[.bool neg,.string (bn N),.string ⟨#[]⟩] 42).on hb7)
     have B7:=jx (chain (V3.out.alloc jb _) hb7 jp)
     obtain ⟨a0,a1,a2,a3,a4,a5⟩:=R7.out.bC
     obtain ⟨b0,b1,b2,b3,b4,b5⟩:=S7.out.bC
     have hne:w6.heap.size≠w.heap.size:=jb
     clear hb7
     go_wp2
     refine aC (fun W=>bY W w.heap.size #[.bool neg,.string (bn N),.string (bn D)]∧Below w.heap.size w W) ⟨by exact bY.jE (R7.out.setOther _ _ (by exact hne.symm)) _ _ _,aQ (B7.out.setCell (by exact Nat.le_of_lt z6) _) jp _ _ _⟩ ?_
     rintro WR ⟨jk,bD⟩
     obtain ⟨y90,y91,jM,-,-,-⟩:=jk.bC
     exact bodyPost_ret (v:=.agg #[.bool neg,.string (bn N),.string (bn D)]) (by simp [results,Tryz.results152,go_sem,y90,y91,jM]) rfl ⟨rfl,bD⟩
 ·as_aux_lemma =>
   have hg2:(1:Int)<(lg:Int):=jb
   clear hg1 HQ1
   go_wp2_with fail
   refine (HDX.out _ _ _ _ B1.out B3.out).mono ?_;rintro e w4 ⟨an,ln,cn,qn,l9,c9,rfl,g1,g2,g3,g4,g5,g6,g7⟩
   rw [HNE.out] at g5
   have lln:=dX.lim (w:=w) g5 KN.out jb
   have C1:=jx (show nT w4 an ln cn N from ⟨g1,g2,jb,g5⟩)
   have C2:=jx (show nT w4 ay ly cy y from ⟨B2.out.1,B2.out.2.1,B2.out.2.2.1,B2.out.2.2.2.below g7 jp⟩)
   have C3:=jx (show nT w4 ag lg cg G from ⟨B3.out.1,B3.out.2.1,B3.out.2.2.1,B3.out.2.2.2.below g7 jp⟩)
   have R4:=jx (HR.out.on g7)
   have B4:=jx (chain HB.out g7 jp)
   clear g5 g6 g7 HR HB B1 B2 B3 HDX
   go_wp2_with fail
   refine (HDY.out _ _ _ _ C2.out C3.out).mono ?_;rintro e w5 ⟨adn,ldn,cdn,qd,l8,c8,rfl,g1',g2',g3',g4',g5,g6,g7⟩
   rw [HDE.out] at g5
   have lld:=dX.lim (w:=w) g5 KD.out jb
   have M1:=jx (show nT w5 an ln cn N from ⟨C1.out.1,C1.out.2.1,C1.out.2.2.1,C1.out.2.2.2.below g7 jp⟩)
   have M2:=jx (show nT w5 adn ldn cdn D from ⟨g1',g2',jb,g5⟩)
   have HR:=jx (R4.out.on g7)
   have HB:=jx (chain B4.out g7 jp)
   clear g5 g6 g7 R4 B4 C1 C2 C3 HDY
   obtain ⟨u1,u2,u3,hN⟩:=M1.out
   obtain ⟨v1,v2,v3,hD⟩:=M2.out
   have ln:=dX.lim (w:=w) hN KN.out jb
   have ld:=dX.lim (w:=w) hD KD.out jb
   have HNN:=jx hN
   have HDD:=jx hD
   clear hN hD
   go_wp2_with fail
   refine (lM _ _ _ _ _ HNN.out jb u1).mono ?_;rintro e w6 ⟨rfl,hb6⟩
   have SV:=jx (HR.out.on hb6)
   have V3:=jx (chain HB.out hb6 jp)
   have hD6:=HDD.out.below hb6 jp
   have HD6:=jx hD6
   have hsd:=hD6.shape d0
   clear hb6 hD6 HR HB HNN HDD
   have z6:=SV.out.lt
   rcases hsd with ⟨rfl,hdl,bd,od,rfl,cd⟩|⟨hld,hd1⟩
   ·have zd:=block_lt_of_cell cd
    have cd2:=((Below.refl w6.heap.size w6).alloc jp (.cells #[.bool neg,.string (bn N),.string ⟨#[]⟩] 42)).cell (p:=⟨bd,od,none⟩) zd
    by_cases hd1:D=1
    ·as_aux_lemma =>
     subst hd1
     have hT:=HT.out
     rw [if_pos rfl] at hT
     subst hT
     replace cd:w6.cell? ⟨bd,od,none⟩=some (.int .u32 1):=cd
     rw [cd] at cd2
     obtain ⟨a0,a1,a2,a3,a4,a5⟩:=SV.out.bC
     go_wp2
     have q9:=aQ V3.out jp (.bool neg) (.string (bn N)) (.string ⟨#[]⟩)
     refine aC (fun W=>bY W w.heap.size #[.bool neg,.string (bn N),.string ⟨#[]⟩]∧Below w.heap.size w W) ⟨by exact (bY.jE SV.out _ _ _).alloc _,by exact q9.alloc q9.size _⟩ ?_
     rintro WR ⟨jk,bD⟩
     obtain ⟨y90,y91,jM,-,-,-⟩:=jk.bC
     exact bodyPost_ret (v:=.agg #[.bool neg,.string (bn N),.string ⟨#[]⟩]) (by simp [results,Tryz.results152,go_sem,y90,y91,jM]) rfl ⟨rfl,bD⟩
    ·as_aux_lemma =>
     have hT:=HT.out
     rw [if_neg hd1] at hT
     subst hT
     rw [cd] at cd2
     have hd2:(1:Int)<(D:Int):=jb
     have hd3:(D:Int)≤4294967295:=by unfold LB at hdl;omega
     clear hd1
     go_wp2_with fail
     refine (lM _ _ _ _ _ (HD6.out.below ((Below.refl w6.heap.size w6).alloc jp _) jp) jb v1).mono ?_;rintro e w7 ⟨rfl,hb7⟩
     have R7:=jx ((SV.out.alloc _).on hb7)
     have S7:=jx ((bY.new w6 #[.bool neg,.string (bn N),.string ⟨#[]⟩] 42).on hb7)
     have B7:=jx (chain (V3.out.alloc jb _) hb7 jp)
     obtain ⟨a0,a1,a2,a3,a4,a5⟩:=R7.out.bC
     obtain ⟨b0,b1,b2,b3,b4,b5⟩:=S7.out.bC
     have hne:w6.heap.size≠w.heap.size:=jb
     clear hb7
     go_wp2
     refine aC (fun W=>bY W w.heap.size #[.bool neg,.string (bn N),.string (bn D)]∧Below w.heap.size w W) ⟨by exact bY.jE (R7.out.setOther _ _ (by exact hne.symm)) _ _ _,aQ (B7.out.setCell (by exact Nat.le_of_lt z6) _) jp _ _ _⟩ ?_
     rintro WR ⟨jk,bD⟩
     obtain ⟨y90,y91,jM,-,-,-⟩:=jk.bC
     exact bodyPost_ret (v:=.agg #[.bool neg,.string (bn N),.string (bn D)]) (by simp [results,Tryz.results152,go_sem,y90,y91,jM]) rfl ⟨rfl,bD⟩
   ·as_aux_lemma =>
     have hd2:(1:Int)<(ldn:Int):=jb
     have hT:=HT.out
     rw [if_neg jb] at hT
     subst hT
     go_wp2_with fail
     refine (lM _ _ _ _ _ (HD6.out.below ((Below.refl w6.heap.size w6).alloc jp _) jp) jb v1).mono ?_;rintro e w7 ⟨rfl,hb7⟩
     have R7:=jx ((SV.out.alloc _).on hb7)
     have S7:=jx ((bY.new w6 #[.bool neg,.string (bn N),.string ⟨#[]⟩] 42).on hb7)
     have B7:=jx (chain (V3.out.alloc jb _) hb7 jp)
     obtain ⟨a0,a1,a2,a3,a4,a5⟩:=R7.out.bC
     obtain ⟨b0,b1,b2,b3,b4,b5⟩:=S7.out.bC
     have hne:w6.heap.size≠w.heap.size:=jb
     clear hb7
     go_wp2
     refine aC (fun W=>bY W w.heap.size #[.bool neg,.string (bn N),.string (bn D)]∧Below w.heap.size w W) ⟨by exact bY.jE (R7.out.setOther _ _ (by exact hne.symm)) _ _ _,aQ (B7.out.setCell (by exact Nat.le_of_lt z6) _) jp _ _ _⟩ ?_
     rintro WR ⟨jk,bD⟩
     obtain ⟨y90,y91,jM,-,-,-⟩:=jk.bC
     exact bodyPost_ret (v:=.agg #[.bool neg,.string (bn N),.string (bn D)]) (by simp [results,Tryz.results152,go_sem,y90,y91,jM]) rfl ⟨rfl,bD⟩
theorem Pv (neg:Bool) (ax ay:Option Addr) (lx ly cx cy x y k:Nat) (w:World) (hL:FU∨x<256 ^ 4) (h1:nT w ax lx cx x) (h2:nT w ay ly cy y) (hy:0<y) (kx:x<256 ^ k) (ky:y<256 ^ k) (hk:k≤1073741820) :
  Calls Tryz.prog 152 #[.bool neg,.slice ax lx cx,.slice ay ly cy] w fun e w'=>e = .returned (.agg #[.bool (rn (fr neg x y)),.string (rs (fr neg x y)),.string (rd (fr neg x y))])∧Below w.heap.size w w':=by
 rcases Nat.eq_zero_or_pos x with h|h
 ·have hl:=h1.2.2.2.iK.mp h
  subst hl
  rw [h,OI]
  exact L6 neg ax ay cx ly cy w
 ·exact Pq neg ax ay lx ly cx cy x y k w hL h1 h2 h hy kx ky hk


theorem size_any (i:Int) (w:World) (h1 : -9223372036854775808≤i) (h2:i≤9223372036854775807) :
  Calls Tryz.prog 120 #[.int .i64 i] w fun e w'=>e = .returned (.int .u64 (i.natAbs:Int))∧w=w':=by
 by_cases h:i<0
 ·have e1:IntKind.u64.wrap (IntKind.u64.wrap (-(i+1))+1)=((i.natAbs:Nat):Int):=by
   simp only [IntKind.wrap,IntKind.bits,IntKind.signed];simp;omega
  have HE:=jx e1
  have h3 : -(i+1)≤9223372036854775807:=jb
  have h4:0≤-(i+1):=jb
  have h5 : -(i+1)+1=(i.natAbs:Int):=jb
  have HF:=jx h5
  clear h5 e1
  go_enter Tryz.func120,Tryz.ntmps120
  go_wp2
  go_ret
  exact ⟨aW (by first|exact HF.out|exact HE.out|omega),rfl⟩
 ·have e1:i=((i.natAbs:Nat):Int):=jb
  have HE:=jx e1
  have h0:0≤i:=jb
  clear e1
  go_enter Tryz.func120,Tryz.ntmps120
  go_wp2
  go_ret
  exact ⟨aW jb,rfl⟩
theorem ac4 (i:Int) (w:World) (h1 : -9223372036854775808≤i) (h2:i≤9223372036854775807) :
  Calls Tryz.prog 84 #[.int .i64 i] w fun e w'=>e = .returned (.agg #[.bool (rn (i:Rat)),.string (rs (i:Rat)),.string (rd (i:Rat))])∧Below w.heap.size w w':=by
 have e1:rn (i:Rat)=decide (i<0):=rfl
 have e2:rs (i:Rat)=bn i.natAbs:=rfl
 have e3:rd (i:Rat)=⟨#[]⟩:=rfl
 rw [e1,e2,e3]
 have HS:=jx (fun w=>size_any i w h1 h2)
 have HF:=jx (fun w=>vH i.natAbs w jb)
 generalize bn i.natAbs=t at *
 generalize (i.natAbs:Int)=j at *
 clear e1 e2 e3
 go_enter Tryz.func84,Tryz.ntmps84
 go_wp2_with fail
 refine (HS.out _).mono ?_;rintro e w3 ⟨rfl,rfl⟩
 go_wp2_with fail
 refine (HF.out _).mono ?_;rintro e w3 ⟨rfl,hb3⟩
 obtain ⟨H2,HB⟩:=fZ hb3
 obtain ⟨b0,b1,b2,f0,f1,f2⟩:=H2.bC
 have HB:=jx HB
 have H2:=jx H2
 clear hb3
 go_wp2
 refine aC (fun W=>bY W (w.heap.size) #[.bool (decide (i<0)),.string t,.string ⟨#[]⟩]∧Below w.heap.size w W) ⟨by exact bY.jE H2.out _ _ _,aQ HB.out jb _ _ _⟩ ?_
 rintro WR ⟨jk,bD⟩
 obtain ⟨y90,y91,jM,-,-,-⟩:=jk.bC
 exact bodyPost_ret (v:=.agg #[.bool (decide (i<0)),.string t,.string ⟨#[]⟩]) (by simp [results,Tryz.results84,go_sem,y90,y91,jM]) rfl ⟨rfl,bD⟩
theorem aaw (neg:Bool) (a b:ByteArray) (w:World) (hL:FU∨nv a<256 ^ 4) (ha:a.size≤134217720) (hb:b.size≤134217720) (h0:0<nv b) :
  Calls Tryz.prog 121 #[.bool neg,.string a,.string b] w fun e w'=>e = .returned (Ru (fr neg (nv a) (nv b)) true)∧Below w.heap.size w w':=by
 have HL:=jx (fun w=>Jc b w jb)
 have HA:=jx (fun w=>Jc a w jb)
 have ka:nv a<256 ^ (a.size+b.size):=Nat.lt_of_lt_of_le (FD a) (Nat.pow_le_pow_right jb jb)
 have kb:nv b<256 ^ (a.size+b.size):=Nat.lt_of_lt_of_le (FD b) (Nat.pow_le_pow_right jb jb)
 have KA:=jx ka
 have KB:=jx kb
 have HR:=jx (fun w ax lx cx ay ly cy h1 h2=>Pv neg ax ay lx ly cx cy (nv a) (nv b) (a.size+b.size) w hL h1 h2 h0 ka kb jb)
 unfold Ru
 generalize fr neg (nv a) (nv b)=r at *
 generalize rn r=r1 at *
 generalize rs r=r2 at *
 generalize rd r=r3 at *
 generalize nv a=x at *
 generalize nv b=y at *
 clear ka kb hL
 go_enter Tryz.func121,Tryz.ntmps121
 go_wp2_with fail
 refine (HL.out _).mono ?_;rintro e w3 ⟨ad,ld,cd,rfl,u1,u2,c3,c4⟩
 have hl:ld≠0:=fun e=>by have:=c3.iK.mpr e;omega
 have hl0:((ld:Int) == 0)=false:=by simp;omega
 have l3:=dX.lim (w:=w) c3 KB.out jb
 obtain ⟨H2,HB⟩:=fZ c4
 have D3:=jx c3
 have HB3:=jx HB
 have H3:=jx H2
 clear c3 c4 H2 HB hl
 go_wp2_with fail
 refine (HA.out _).mono ?_;rintro e w4 ⟨an,ln,cn,rfl,u3,u4,c3,c4⟩
 have l4:=dX.lim (w:=w) c3 KA.out jb
 have N4:=jx c3
 have D4:=jx (D3.out.below c4 jp)
 have HB4:=jx (chain HB3.out c4 jp)
 have H4:=jx (H3.out.on c4)
 clear c3 c4 D3 HB3 H3
 go_wp2_with fail
 refine (HR.out _ _ _ _ _ _ _ ⟨u3,u4,jb,N4.out⟩ ⟨u1,u2,jb,D4.out⟩).mono ?_;rintro e w5 ⟨rfl,c4⟩
 have HB:=jx (chain HB4.out c4 jp)
 have H2:=jx (H4.out.on c4)
 obtain ⟨b0,b1,b2,f0,f1,f2⟩:=H2.out.bC
 clear c4 D4 N4 HB4 H4
 go_wp2
 refine aC (fun W=>bY W w.heap.size #[.bool r1,.string r2,.string r3]∧Below w.heap.size w W) ⟨by exact bY.jE H2.out _ _ _,aQ HB.out jb _ _ _⟩ ?_
 rintro WR ⟨jk,bD⟩
 obtain ⟨y90,y91,jM,-,-,-⟩:=jk.bC
 exact bodyPost_ret (v:=.tuple #[.agg #[.bool r1,.string r2,.string r3],.bool true]) (by simp [results,Tryz.results121,go_sem,y90,y91,jM]) rfl ⟨rfl,bD⟩
theorem ac5 (i j:Int) (hj:0<j):fr (!(decide (i<0) == decide (j<0))) i.natAbs j.natAbs=(i:Rat)/(j:Rat):=by
 have hj0:(j:Rat)≠0:=by
  intro e
  have:j=0:=by exact_mod_cast e
  omega
 rw [OM hj0]
 have e1:rn (i:Rat)=decide (i<0):=rfl
 have e2:rn (j:Rat)=decide (j<0):=rfl
 have e3:nm (i:Rat)=i.natAbs:=rfl
 have e4:nm (j:Rat)=j.natAbs:=rfl
 have e5:(i:Rat).den=1:=rfl
 have e6:(j:Rat).den=1:=rfl
 rw [e1,e2,e3,e4,e5,e6,Nat.mul_one,Nat.one_mul]
 rfl
theorem L8 (i j:Int) (w:World) (h1 : -4294967295≤i) (h2:i≤4294967295) (h3:0<j) (h4:j≤9223372036854775807) :
  Calls Tryz.prog 85 #[.int .i64 i,.int .i64 j] w fun e w'=>e = .returned (Ru ((i:Rat)/(j:Rat)) true)∧Below w.heap.size w w':=by
 have hs1:(bn i.natAbs).size≤8:=jP jb
 have hs2:(bn j.natAbs).size≤8:=jP jb
 have hM : ∀ w,Calls Tryz.prog 121 #[.bool (!(decide (i<0) == decide (j<0))),.string (bn i.natAbs),.string (bn j.natAbs)] w fun e w'=>e = .returned (Ru ((i:Rat)/(j:Rat)) true)∧Below w.heap.size w w':=fun w=>by
  have:=aaw (!(decide (i<0) == decide (j<0))) (bn i.natAbs) (bn j.natAbs) w (.inr (by rw [bK];show i.natAbs<4294967296;omega)) jb jb (by rw [bK];omega)
  rw [bK,bK,ac5 i j h3] at this
  exact this
 have hj:decide (j<0)=false:=by simp;omega
 rw [hj] at hM
 have HS1:=jx (fun w=>size_any i w jb jb)
 have HS2:=jx (fun w=>size_any j w jb h4)
 have HF1:=jx (fun w=>vH i.natAbs w jb)
 have HF2:=jx (fun w=>vH j.natAbs w jb)
 have HM:=jx hM
 unfold Ru at *
 generalize (i:Rat)/(j:Rat)=r at *
 generalize rn r=r1 at *
 generalize rs r=r2 at *
 generalize rd r=r3 at *
 generalize bn i.natAbs=t1 at *
 generalize bn j.natAbs=t2 at *
 generalize (i.natAbs:Int)=z1 at *
 generalize (j.natAbs:Int)=z2 at *
 clear hM
 have hnn:(!(decide (i<0) == false))=decide (i<0):=by cases decide (i<0) <;> rfl
 rw [hnn] at HM
 clear hnn
 by_cases hi:i<0
 ·rw [decide_eq_true hi] at HM
  as_aux_lemma =>
  go_enter Tryz.func85,Tryz.ntmps85
  go_wp2_with fail
  refine (HS1.out _).mono ?_;rintro e w3 ⟨rfl,rfl⟩
  go_wp2_with fail
  refine (HF1.out _).mono ?_;rintro e w3 ⟨rfl,c3⟩
  go_wp2_with fail
  refine (HS2.out _).mono ?_;rintro e w4 ⟨rfl,rfl⟩
  go_wp2_with fail
  refine (HF2.out _).mono ?_;rintro e w4 ⟨rfl,c4⟩
  go_wp2_with fail
  refine (HM.out _).mono ?_;rintro e w5 ⟨rfl,c5⟩
  obtain ⟨H2,HB⟩:=fZ (chain (chain c3 c4 jp) c5 jp)
  obtain ⟨b0,b1,b2,f0,f1,f2⟩:=H2.bC
  have HB:=jx HB
  have H2:=jx H2
  clear c3 c4 c5
  go_wp2
  refine aC (fun W=>bY W w.heap.size #[.bool r1,.string r2,.string r3]∧Below w.heap.size w W) ⟨by exact bY.jE H2.out _ _ _,aQ HB.out jb _ _ _⟩ ?_
  rintro WR ⟨jk,bD⟩
  obtain ⟨y90,y91,jM,-,-,-⟩:=jk.bC
  exact bodyPost_ret (v:=.tuple #[.agg #[.bool r1,.string r2,.string r3],.bool true]) (by simp [results,Tryz.results85,go_sem,y90,y91,jM]) rfl ⟨rfl,bD⟩
 ·have hi3:=hi
  have hi2:0≤i:=jb
  clear hi hi3
  as_aux_lemma =>
  go_enter Tryz.func85,Tryz.ntmps85
  go_wp2_with fail
  refine (HS1.out _).mono ?_;rintro e w3 ⟨rfl,rfl⟩
  go_wp2_with fail
  refine (HF1.out _).mono ?_;rintro e w3 ⟨rfl,c3⟩
  go_wp2_with fail
  refine (HS2.out _).mono ?_;rintro e w4 ⟨rfl,rfl⟩
  go_wp2_with fail
  refine (HF2.out _).mono ?_;rintro e w4 ⟨rfl,c4⟩
  go_wp2_with fail
  refine (HM.out _).mono ?_;rintro e w5 ⟨rfl,c5⟩
  obtain ⟨H2,HB⟩:=fZ (chain (chain c3 c4 jp) c5 jp)
  obtain ⟨b0,b1,b2,f0,f1,f2⟩:=H2.bC
  have HB:=jx HB
  have H2:=jx H2
  clear c3 c4 c5
  go_wp2
  refine aC (fun W=>bY W w.heap.size #[.bool r1,.string r2,.string r3]∧Below w.heap.size w W) ⟨by exact bY.jE H2.out _ _ _,aQ HB.out jb _ _ _⟩ ?_
  rintro WR ⟨jk,bD⟩
  obtain ⟨y90,y91,jM,-,-,-⟩:=jk.bC
  exact bodyPost_ret (v:=.tuple #[.agg #[.bool r1,.string r2,.string r3],.bool true]) (by simp [results,Tryz.results85,go_sem,y90,y91,jM]) rfl ⟨rfl,bD⟩
end Go.Proofs.Ins
