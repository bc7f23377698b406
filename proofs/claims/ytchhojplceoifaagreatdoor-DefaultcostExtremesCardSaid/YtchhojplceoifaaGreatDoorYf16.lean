import Derived.Test.YtchhojplceoifaaGreatDoorYf2
set_option linter.all false
set_option maxRecDepth 100000
set_option maxHeartbeats 8000000
namespace Go.Proofs.Ins
open Go.RowKit
def JV(n:Int)(h0:0<=n)(h1:n<2^32):IntKind.u32.wrap n=n:=by rw[IntKind.wrap_u32];omega
def ac5(a b:Nat)(ha:a<2^32)(hb:b<2^32):bits .and .u32 (a:Int) b=((a&&&b:Nat):Int):=(bits_nat .u32 32 jj JV a b ha hb).1
def ac6(a b:Nat)(ha:a<2^32)(hb:b<2^32):bits .or .u32 (a:Int) b=((a|||b:Nat):Int):=(bits_nat .u32 32 jj JV a b ha hb).2
def Vl(a b:Nat)(ha:a<2^32)(hb:b<2^32):bits .xor .u32 (a:Int) b=((a^^^b:Nat):Int):=by have ha':a%2^IntKind.u32.bits=a:=eL ha;have hb':b%2^IntKind.u32.bits=b:=eL hb;simp only[bits,BitVec.ofInt_natCast,BitVec.toNat_xor,BitVec.toNat_ofNat,ha',hb'];have h:=js ha hb;exact JV _ (Int.natCast_nonneg _) (by exact_mod_cast h)
def aa8{a:Nat}(h:a<2^32):a>>>31=0\/a>>>31=1:=by rw[Nat.shiftRight_eq_div_pow];omega
def aa9(x y d:Nat)(hx:x<2^32)(hy:y<2^32)(hd:d<2^32)(b:Nat)(hb:b<=1)(he:(d+y+b)%4294967296=x):
  (((4294967295^^^x)&&&y)|||((4294967295^^^(x^^^y))&&&d))/2147483648=if x<y+b then 1 else 0:=by
 have e:∀n,n/2147483648=n>>>31:=λn=>by rw[Nat.shiftRight_eq_div_pow]
 rw[e,Nat.shiftRight_or_distrib,Nat.shiftRight_and_distrib,Nat.shiftRight_and_distrib,iA,iA,iA]
 have m:4294967295>>>31=1:=by decide
 rw[m]
 have tx:=aa8 hx
 have ty:=aa8 hy
 have td:=aa8 hd
 have fx:x>>>31=x/2147483648:=(e x).symm
 have fy:y>>>31=y/2147483648:=(e y).symm
 have fd:d>>>31=d/2147483648:=(e d).symm
 rcases tx with tx|tx<;>rcases ty with ty|ty<;>rcases td with td|td<;>rw[tx,ty,td]<;>simp<;>omega
def abb(x y b:Int)(hx0:0<=x)(hx:x<=4294967295)(hy0:0<=y)(hy:y<=4294967295)(hb0:0<=b)(hb:b<=1):
  bits BinOp.or .u32 (bits BinOp.and .u32 (bits BinOp.xor .u32 IntKind.u32.max x) y) (bits BinOp.and .u32 (bits BinOp.xor .u32 IntKind.u32.max (bits BinOp.xor .u32 x y)) ((x-y-b)%4294967296))/2147483648
   =if x<y+b then 1 else 0:=by
 obtain⟨x,rfl⟩:=cn hx0
 obtain⟨y,rfl⟩:=cn hy0
 obtain⟨b,rfl⟩:=cn hb0
 obtain⟨d,hd⟩:=cn (show 0<=((x:Int)-y-b)%4294967296 by omega)
 have hd2:d<2^32:=jb
 have hm:IntKind.u32.max=((4294967295:Nat):Int):=by decide
 rw[hd,hm]
 have h1:(4294967295^^^x)<2^32:=js jj jb
 have h2:(x^^^y)<2^32:=js jb jb
 have h3:(4294967295^^^(x^^^y))<2^32:=js jj h2
 rw[Vl _ x jj jb,Vl x y jb jb,Vl _ _ jj h2,ac5 _ _ h1 jb,ac5 _ _ h3 hd2,
  ac6 _ _ (Nat.and_lt_two_pow _ jb) (Nat.and_lt_two_pow _ hd2)]
 have h4:=aa9 x y d jb jb hd2 b jb jb
 have h5:((2147483648:Int))=((2147483648:Nat):Int):=rfl
 rw[h5,<-ir,h4]
 split<;>split<;>omega
def brw(x y b:Int):Int:=if x<y+b then 1 else 0
def AV(x y b:Int)(w:World)(hx0:0<=x)(hx:x<=4294967295)(hy0:0<=y)(hy:y<=4294967295)(hb0:0<=b)(hb:b<=1):
  Calls Tryz.prog 199 #[.int .u32 x,.int .u32 y,.int .u32 b] w λe w'=>e=.returned (.tuple #[.int .u32 ((x-y-b)%4294967296),.int .u32 (brw x y b)])/\w=w':=by
 have H:=jx (abb x y b hx0 hx hy0 hy hb0 hb)
 go_enter Tryz.func199,Tryz.ntmps199
 go_wp2
 go_ret2
 refine⟨?_,rfl⟩
 unfold brw
 rw[<-H.out];rfl
def AY(x y c:Int)(w:World)(hx0:0<=x)(hx:x<=4294967295)(hy0:0<=y)(hy:y<=4294967295)(hb0:0<=c)(hb:c<=1):
  Calls Tryz.prog 161 #[.int .u32 x,.int .u32 y,.int .u32 c] w λe w'=>e=.returned (.tuple #[.int .u32 ((x+y+c)%4294967296),.int .u32 ((x+y+c)/4294967296)])/\w=w':=by
 go_enter Tryz.func161,Tryz.ntmps161
 go_wp2
 go_ret2
 exact⟨rfl,rfl⟩
def Yj(a b:Option Addr)(la lb ca cb:Nat)(w:World)(h:la≠lb)(h1:la<=4294967296)(h2:lb<=4294967296):
  Calls Tryz.prog 162 #[.slice a la ca,.slice b lb cb] w λe w'=>e=.returned (.int .i64 (aar ((la:Int)-lb)))/\w=w':=by
 have HL2:((la:Int) !=(lb:Int))=true:=by simp;omega
 clear h
 go_enter Tryz.func162,Tryz.ntmps162
 go_wp2_with (go_at_call 115;refine(Xl _ _).mono ?_;rintro e w' ⟨rfl,rfl⟩)
 go_ret
 exact⟨rfl,rfl⟩
def Vm(a b:Option Addr)(ca cb:Nat)(w:World):
  Calls Tryz.prog 162 #[.slice a 0 ca,.slice b 0 cb] w λe w'=>e=.returned (.int .i64 0)/\w=w':=by
 go_enter Tryz.func162,Tryz.ntmps162
 go_wp2
 go_loop [5] (λv=>v=.int .i64 (-1)) (λ_=>0)
 case atStart=>exact rfl
 case round=>
  subst hrel;go_wp2;go_ret;exact⟨rfl,rfl⟩
def Vo(b1 o1 b2 o2 n c1 c2:Nat)(f g:Nat->Nat)(w:World)(hn:n<=4294967296)(hn0:0<n)(hf:Reads w b1 o1 .u32 n f)(hg:Reads w b2 o2 .u32 n g)
  (lf:∀j,j<n->f j<LB) (lg:∀j,j<n->g j<LB):
  Calls Tryz.prog 162 #[.slice (some ⟨b1,o1,none⟩) n c1,.slice (some ⟨b2,o2,none⟩) n c2] w λe w'=>e=.returned (.int .i64 (rU (lv f n) (lv g n)))/\Below w.heap.size w w':=by
 have Hlf:=jx lf
 have Hlg:=jx lg
 have Hf:=jx hf
 have Hg:=jx hg
 clear lf lg hf hg
 go_enter Tryz.func162,Tryz.ntmps162
 go_wp2
 go_loopw [5] (λv wr=>∃i:Int,v=.int .i64 i/\-1<=i/\i<n/\Hid (∀j:Nat,i<j->j<n->f j=g j)/\∃q,wr=w.drewN q) (λv _=>(intOf v+1).toNat)
 case atStart=>exact⟨(n:Int)-1,rfl,jb,jb,λj h1 h2=>jb,0,rfl⟩
 case round=>
  obtain⟨i,rfl,hi1,hi2,hall,q,rfl⟩:=hrel;by_cases h0:i=-1
  .subst h0;have he:lv f n=lv g n:=rM λj hj=>hall.out j jb hj;have HE:=jx he;clear he;go_wp2;go_ret;exact⟨wY (by rw[HE.out,UH]),below_drewN (Below.refl _ _) q⟩
  .obtain⟨m,rfl⟩:=cn (show 0<=i by omega);have hm:(m:Int)<n:=hi2;have hc1:=Hf.out m jb;have hc2:=Hg.out m jb;rcases(show f m<g m\/g m<f m\/f m=g m by omega)with h|h|h
   .have t1:((f m:Int) !=(g m:Int))=true:=by simp;omega
    have t2:((f m:Int)<(g m:Int)):=jb;have HR:=jx (Ia Hlf.out Hlg.out (show m<n by omega) (λj h1 h2=>hall.out j jb h2) h);go_wp2;go_quiet (fail);go_wp2;go_quiet (fail);go_wp2;go_ret;exact⟨wY (zk HR.out).symm,below_drewN (below_drewN (below_drewN (Below.refl _ _) _) _) _⟩
   .have t1:((f m:Int) !=(g m:Int))=true:=by simp;omega
    have t2:decide ((f m:Int)<(g m:Int))=false:=by simp;omega
    have HR:=jx (Ia Hlg.out Hlf.out (show m<n by omega) (λj h1 h2=>(hall.out j jb h2).symm) h);go_wp2;go_quiet (fail);go_wp2;go_quiet (fail);go_wp2;go_ret;exact⟨wY (EL HR.out).symm,below_drewN (below_drewN (below_drewN (Below.refl _ _) _) _) _⟩
   .rw[h]at hc1;have H:=jx h;clear h;go_wp2;go_quiet (fail);go_wp2;go_roundw
    case rel=>exact⟨(m:Int)-1,rfl,jb,jb,λj h1 h2=>by
     by_cases e:j=m
     .subst e;exact H.out
     .exact hall.out j jb h2,_,rfl⟩
    case measure=>simp[intOf]
def zG(a b:Option Addr)(la lb ca cb x y:Nat)(w:World)(h1:Limbs w a la x)(h2:Limbs w b lb y)(l1:la<=4294967296)(l2:lb<=4294967296):
  Calls Tryz.prog 162 #[.slice a la ca,.slice b lb cb] w λe w'=>e=.returned (.int .i64 (rU x y))/\Below w.heap.size w w':=by
 obtain⟨f,rfl,hf,rf⟩:=h1
 obtain⟨g,rfl,hg,rg⟩:=h2
 by_cases h:la=lb
 .subst h
  by_cases h0:la=0
  .subst h0
   exact(Vm a b ca cb w).mono λe w' ⟨he,hw⟩=>⟨he,hw▸Below.refl _ _⟩
  .rcases rf with rf|⟨b1,o1,rfl,r1⟩
   .exact absurd rf h0
   rcases rg with rg|⟨b2,o2,rfl,r2⟩
   .exact absurd rg h0
   exact Vo b1 o1 b2 o2 la ca cb f g w l1 jb r1 r2 hf.1 hg.1
 .refine(Yj a b la lb ca cb w h l1 l2).mono λe w' ⟨he,hw⟩=>⟨he.trans (wY ?_),hw▸Below.refl _ _⟩
  rcases(show la<lb\/lb<la by omega)with c|c
  .rw[UJ jb,zk (hf.Uy hg c)]
  .rw[UK jb,EL (hg.Uy hf c)]
def MI(f:Nat->Nat)(k v:Nat)(hv:v=f k)(j:Nat):upd (ext f k) k v j=ext f (k+1) j:=by
 by_cases e:j=k
 .subst e;rw[upd_same,rO jb,hv]
 .rw[dh _ _ _ e];by_cases h:j<k
  .rw[rO h,rO jb]
  .rw[jX jb,jX jb]
def Limbs.vw{w:World}{a:Option Addr}{len:Nat}{s:ByteArray}(h:Limbs w a len (nv s)):4*len<=s.size+3:=by
 have h1:=NQ s;have h2:nv s<LB^((s.size+3)/4):=by rw[UD];exact aM h1 (bB jb jb)
 have:=h.NW h2;omega
def JW(w:World)(a:Option Addr)(len x:Nat)(f:Nat->Nat):Prop:=lv f len=x/\Can f len/\(len=0\/∃b off,a=some ⟨b,off,none⟩/\Reads w b off .u32 len f)
def MJ{F G' C:Nat}{f g:Nat->Nat}{k lx:Nat}{w2 wr:World}{T:TypeId}
  (hd:sdg f g k=(F+G'+C)%LB) (hs:Jv f g (k+1)=(F+G'+C)/LB) (hrow:Row wr w2.heap.size T .u32 (lx+1) (ext (sdg f g) k)) (hbel:Below w2.heap.size w2 wr) (hk:k<lx):
  ∃k':Nat,Value.int .i64 ((k:Int)+1)=.int .i64 k'/\k'<=lx/\Value.int .u32 (((F:Int)+(G':Nat)+C)/4294967296)=.int .u32 (Jv f g k')/\
   Row (wr.setCell ⟨w2.heap.size,k,none⟩ (.int .u32 (((F:Int)+(G':Nat)+C)%4294967296))) w2.heap.size T .u32 (lx+1) (ext (sdg f g) k')/\
   Below w2.heap.size w2 (wr.setCell ⟨w2.heap.size,k,none⟩ (.int .u32 (((F:Int)+(G':Nat)+C)%4294967296))):=by
 rw[Dh]at hd hs
 refine⟨k+1,by go_num,jb,?_,?_,hbel.setCell jp _⟩
 .rw[hs];congr 1
 .have e1:(((F:Int)+(G':Nat)+C)%4294967296)=((sdg f g k:Nat):Int):=by rw[hd];omega
  rw[e1]
  exact(hrow.set k _).congr λj _=>MI _ k _ rfl j
def add_any(a b:ByteArray)(w:World)(ha:a.size<=1073741824)(hb:b.size<=1073741824):
  Calls Tryz.prog 111 #[.string a,.string b] w λe w'=>e=.returned (.string (bn (nv a+nv b)))/\Below w.heap.size w w':=by
 go_enter Tryz.func111,Tryz.ntmps111
 go_wp2_with fail
 refine(parse_any a _ ha).mono ?_;rintro e w1 ⟨ax,lx,cx,rfl,lcx,ccx,hX1,hb1⟩
 go_wp2_with fail
 refine(parse_any b _ hb).mono ?_;rintro e w2 ⟨ay,ly,cy,rfl,lcy,ccy,hY,hb2⟩
 have hX:=hX1.below hb2 jp
 have hll:=hX.vw
 have hlm:=hY.vw
 obtain⟨fx,hX⟩:=hX
 obtain⟨fy,hY⟩:=hY
 have HX:Hid (JW w2 ax lx (nv a) fx):=hX
 have HY:Hid (JW w2 ay ly (nv b) fy):=hY
 clear hX hY hX1
 by_cases hsw:lx<ly
 .have azk:decide ((lx:Int)<(ly:Int))=true:=by simp;omega
  go_wp2_with (refine iE _ _ 175 177 .u32 4 (ly+1) _ rfl rfl Tryz.underlying175 xu rfl rfl jb jb jb ?_;intro w3 hr3 hb3 hz3)
  go_loopw [8,9,10,28] (λc _ _ i wr=>∃k:Nat,i=.int .i64 k/\k<=ly/\c=.int .u32 (Jv (ext fy ly) (ext fx lx) k)/\Row wr w2.heap.size 177 .u32 (ly+1) (ext (sdg (ext fy ly) (ext fx lx)) k)/\Below w2.heap.size w2 wr) (λ_ _ _ i _=>ly-(intOf i).toNat)
  case atStart=>exact⟨0,rfl,jb,rfl,hr3.congr (λj _=>by rw[jX jb]),hb3⟩
  case round=>
   obtain⟨k,rfl,hk,rfl,hrow,hbel⟩:=hrel;clear hr3 hb3 hz3;have c0:=ag5 (nT HY.out.2.1.1) (nT HX.out.2.1.1) k;have fk:=nT HY.out.2.1.1 k;have gk:=nT HX.out.2.1.1 k;have hs:=jx (NS (ext fy ly) (ext fx lx) k);have hd:Hid (sdg (ext fy ly) (ext fx lx) k=(ext fy ly k+ext fx lx k+Jv (ext fy ly) (ext fx lx) k)%LB):=rfl;rw[Dh]at fk gk;have q0:(0:Int)<=(Jv (ext fy ly) (ext fx lx) k:Int):=jb;have q1:(Jv (ext fy ly) (ext fx lx) k:Int)<=1:=jb;by_cases hlt:k<ly
   .rcases HY.out.2.2 with h0|⟨b1,o1,rfl,r1⟩
    .omega
    have hcx:=(r1.below hbel (by have:=r1.lt jb;omega)) k hlt;rw[<-rO (f:=fy) hlt]at hcx;have hold:=hrow.cell (j:=k) jb;have hfr:=hrow.frozen k;rw[jX (cP k)]at hold;have f0:(0:Int)<=(ext fy ly k:Int):=jb;have f1:(ext fy ly k:Int)<=4294967295:=jb;have g0:(0:Int)<=(ext fx lx k:Int):=jb;have g1:(ext fx lx k:Int)<=4294967295:=jb;generalize hC:Jv (ext fy ly) (ext fx lx) k=C at*;generalize hF:ext fy ly k=F at*;have HC:=jx hC;have HF:=jx hF;clear hC hF;by_cases hlt2:k<lx
    .rcases HX.out.2.2 with h0|⟨b2,o2,rfl,r2⟩
     .omega
     have hcy:=(r2.below hbel (by have:=r2.lt jb;omega)) k hlt2;rw[<-rO (f:=fx) hlt2]at hcy;generalize hG:ext fx lx k=G at*;have HG:=jx hG;clear hG;go_wp2_with (go_at_call 161;refine(AY _ _ _ _ f0 f1 g0 g1 q0 q1).mono ?_;rintro e w' ⟨rfl,rfl⟩)
     go_roundw
     case rel=>exact MJ hd.out hs.out hrow hbel hlt
     case measure=>simp[intOf];omega
    .have hG0:ext fx lx k=0:=jX jb;have hnn:decide ((k:Int)<(lx:Int))=false:=by simp;omega
     rw[hG0]at hd hs g0 g1;have HG:=jx hG0;clear hG0;go_wp2_with (go_at_call 161;refine(AY _ _ _ _ f0 f1 jb jb q0 q1).mono ?_;rintro e w' ⟨rfl,rfl⟩)
     go_roundw
     case rel=>exact MJ (G':=0) hd.out hs.out hrow hbel hlt
     case measure=>simp[intOf];omega
   .obtain rfl:k=ly:=jb;have hold:=hrow.cell (j:=k) jb;have hfr:=hrow.frozen k;rw[jX (cP k)]at hold;have hfin:lv (upd (ext (sdg (ext fy k) (ext fx lx)) k) k (Jv (ext fy k) (ext fx lx) k)) (k+1)=nv a+nv b:=by rw[eN (nv a)];rw[gI,xM _ (cP k),upd_same,xU (cP k),ag6,xU (cP k),xU jb,HY.out.1,HX.out.1]
    have hlim:∀j,j<k+1->upd (ext (sdg (ext fy k) (ext fx lx)) k) k (Jv (ext fy k) (ext fx lx) k) j<LB:=by
     intro j hj;by_cases e:j=k
     .subst e;rw[upd_same];unfold LB;omega
     .rw[dh _ _ _ e];exact nT (λj _=>di _ lT) j
    have hrow2:=hrow.set k (Jv (ext fy k) (ext fx lx) k);have hb3:Below w.heap.size w (wr.setCell ⟨w2.heap.size,k,none⟩ (.int .u32 (Jv (ext fy k) (ext fx lx) k))):=
     (hb1.trans (hb2.mono hb1.size)).trans ((hbel.mono (ap hb1.size hb2.size)).setCell (by have:=hb1.size;have:=hb2.size;simp;omega) _)
    have HR:=jx hrow2;have HB:=jx hb3;have HF:=jx hfin;have HL:=jx hlim;clear hrow2 hb3 hfin hlim hrow hs hd;go_wp2_with fail;refine(Aw w2.heap.size 0 (k+1) (k+1) _ _ jb jb HR.out.reads HL.out).mono ?_;rintro e w' ⟨rfl,hbt⟩;rw[HF.out];go_wp2;go_ret;exact⟨rfl,HB.out.trans (hbt.mono HB.out.size)⟩
 .have azk:decide ((lx:Int)<(ly:Int))=false:=by simp;omega
  go_wp2_with (refine iE _ _ 175 177 .u32 4 (lx+1) _ rfl rfl Tryz.underlying175 xu rfl rfl jb jb jb ?_;intro w3 hr3 hb3 hz3)
  go_loopw [8,9,10,28] (λc _ _ i wr=>∃k:Nat,i=.int .i64 k/\k<=lx/\c=.int .u32 (Jv (ext fx lx) (ext fy ly) k)/\Row wr w2.heap.size 177 .u32 (lx+1) (ext (sdg (ext fx lx) (ext fy ly)) k)/\Below w2.heap.size w2 wr) (λ_ _ _ i _=>lx-(intOf i).toNat)
  case atStart=>exact⟨0,rfl,jb,rfl,hr3.congr (λj _=>by rw[jX jb]),hb3⟩
  case round=>
   obtain⟨k,rfl,hk,rfl,hrow,hbel⟩:=hrel;clear hr3 hb3 hz3;have c0:=ag5 (nT HX.out.2.1.1) (nT HY.out.2.1.1) k;have fk:=nT HX.out.2.1.1 k;have gk:=nT HY.out.2.1.1 k;have hs:=jx (NS (ext fx lx) (ext fy ly) k);have hd:Hid (sdg (ext fx lx) (ext fy ly) k=(ext fx lx k+ext fy ly k+Jv (ext fx lx) (ext fy ly) k)%LB):=rfl;rw[Dh]at fk gk;have q0:(0:Int)<=(Jv (ext fx lx) (ext fy ly) k:Int):=jb;have q1:(Jv (ext fx lx) (ext fy ly) k:Int)<=1:=jb;by_cases hlt:k<lx
   .rcases HX.out.2.2 with h0|⟨b1,o1,rfl,r1⟩
    .omega
    have hcx:=(r1.below hbel (by have:=r1.lt jb;omega)) k hlt;rw[<-rO (f:=fx) hlt]at hcx;have hold:=hrow.cell (j:=k) jb;have hfr:=hrow.frozen k;rw[jX (cP k)]at hold;have f0:(0:Int)<=(ext fx lx k:Int):=jb;have f1:(ext fx lx k:Int)<=4294967295:=jb;have g0:(0:Int)<=(ext fy ly k:Int):=jb;have g1:(ext fy ly k:Int)<=4294967295:=jb;generalize hC:Jv (ext fx lx) (ext fy ly) k=C at*;generalize hF:ext fx lx k=F at*;have HC:=jx hC;have HF:=jx hF;clear hC hF;by_cases hlt2:k<ly
    .rcases HY.out.2.2 with h0|⟨b2,o2,rfl,r2⟩
     .omega
     have hcy:=(r2.below hbel (by have:=r2.lt jb;omega)) k hlt2;rw[<-rO (f:=fy) hlt2]at hcy;generalize hG:ext fy ly k=G at*;have HG:=jx hG;clear hG;go_wp2_with (go_at_call 161;refine(AY _ _ _ _ f0 f1 g0 g1 q0 q1).mono ?_;rintro e w' ⟨rfl,rfl⟩)
     go_roundw
     case rel=>exact MJ hd.out hs.out hrow hbel hlt
     case measure=>simp[intOf];omega
    .have hG0:ext fy ly k=0:=jX jb;have hnn:decide ((k:Int)<(ly:Int))=false:=by simp;omega
     rw[hG0]at hd hs g0 g1;have HG:=jx hG0;clear hG0;go_wp2_with (go_at_call 161;refine(AY _ _ _ _ f0 f1 jb jb q0 q1).mono ?_;rintro e w' ⟨rfl,rfl⟩)
     go_roundw
     case rel=>exact MJ (G':=0) hd.out hs.out hrow hbel hlt
     case measure=>simp[intOf];omega
   .obtain rfl:k=lx:=jb;have hold:=hrow.cell (j:=k) jb;have hfr:=hrow.frozen k;rw[jX (cP k)]at hold;have hfin:lv (upd (ext (sdg (ext fx k) (ext fy ly)) k) k (Jv (ext fx k) (ext fy ly) k)) (k+1)=nv a+nv b:=by rw[gI,xM _ (cP k),upd_same,xU (cP k),ag6,xU (cP k),xU jb,HX.out.1,HY.out.1]
    have hlim:∀j,j<k+1->upd (ext (sdg (ext fx k) (ext fy ly)) k) k (Jv (ext fx k) (ext fy ly) k) j<LB:=by
     intro j hj;by_cases e:j=k
     .subst e;rw[upd_same];unfold LB;omega
     .rw[dh _ _ _ e];exact nT (λj _=>di _ lT) j
    have hrow2:=hrow.set k (Jv (ext fx k) (ext fy ly) k);have hb3:Below w.heap.size w (wr.setCell ⟨w2.heap.size,k,none⟩ (.int .u32 (Jv (ext fx k) (ext fy ly) k))):=
     (hb1.trans (hb2.mono hb1.size)).trans ((hbel.mono (ap hb1.size hb2.size)).setCell (by have:=hb1.size;have:=hb2.size;simp;omega) _)
    have HR:=jx hrow2;have HB:=jx hb3;have HF:=jx hfin;have HL:=jx hlim;clear hrow2 hb3 hfin hlim hrow hs hd;go_wp2_with fail;refine(Aw w2.heap.size 0 (k+1) (k+1) _ _ jb jb HR.out.reads HL.out).mono ?_;rintro e w' ⟨rfl,hbt⟩;rw[HF.out];go_wp2;go_ret;exact⟨rfl,HB.out.trans (hbt.mono HB.out.size)⟩
def OY(s:ByteArray):nv s<LB^((s.size+3)/4):=by rw[UD];exact aM (NQ s) (bB jb jb)
def ac7{F G C:Nat}{f g:Nat->Nat}{k lx:Nat}{w2 wr:World}{T:TypeId}
  (hF:f k=F) (hG:g k=G) (hC:Sj f g k=C) (lF:F<LB) (lG:G<LB) (hrow:Row wr w2.heap.size T .u32 lx (ext (ddg f g) k)) (hbel:Below w2.heap.size w2 wr) (hk:k<lx):
  ∃k':Nat,Value.int .i64 ((k:Int)+1)=.int .i64 k'/\k'<=lx/\Value.int .u32 (brw F (G:Nat) C)=.int .u32 (Sj f g k')/\
   Row (wr.setCell ⟨w2.heap.size,k,none⟩ (.int .u32 (((F:Int)-(G:Nat)-C)%4294967296))) w2.heap.size T .u32 lx (ext (ddg f g) k')/\
   Below w2.heap.size w2 (wr.setCell ⟨w2.heap.size,k,none⟩ (.int .u32 (((F:Int)-(G:Nat)-C)%4294967296))):=by
 have hd:=aag (f:=f) (g:=g) (k:=k) jb jb
 have hb:=UE f g k
 have hs:=NT f g k
 rw[hF,hG,hC]at hs hd
 rw[hC]at hb
 refine⟨k+1,by go_num,jb,?_,?_,hbel.setCell jp _⟩
 .congr 1
  rw[hs];unfold brw
  by_cases c:F<G+C
  .rw[ae c,ae jb];rfl
  .rw[ab c,ab jb];rfl
 .have e1:(((F:Int)-(G:Nat)-C)%4294967296)=((ddg f g k:Nat):Int):=by have h1:=hd.1;have h2:=hd.2;have h3:=UE f g (k+1);unfold LB at*;rcases(show Sj f g (k+1)=0\/Sj f g (k+1)=1 by omega)with c|c<;>rw[c]at h1<;>omega
  rw[e1]
  exact(hrow.set k _).congr λj _=>MI _ k _ rfl j
def Vp(ax ay:Option Addr)(lx ly cx cy x y:Nat)(w:World)(hX:Limbs w ax lx x)(hY:Limbs w ay ly y)(hle:y<=x)(hl:lx<=1073741824):
  Calls Tryz.prog 163 #[.slice ax lx cx,.slice ay ly cy] w (Ii w (x-y)):=by
 obtain⟨fx,hX⟩:=hX
 obtain⟨fy,hY⟩:=hY
 have HX:Hid (JW w ax lx x fx):=hX
 have HY:Hid (JW w ay ly y fy):=hY
 clear hX hY
 have hly:ly<=lx:=by
  rcases fM lx ly with h|h
  .have:=HX.out.2.1.Uy HY.out.2.1 h;rw[HX.out.1,HY.out.1]at this;omega
  .exact h
 go_enter Tryz.func163,Tryz.ntmps163
 go_wp2_with (refine iE _ _ 175 177 .u32 4 lx _ rfl rfl Tryz.underlying175 xu rfl rfl jb jb jb ?_;intro w3 hr3 hb3 hz3)
 go_loopw [6,7,8,14] (λc _ _ i wr=>∃k:Nat,i=.int .i64 k/\k<=lx/\c=.int .u32 (Sj (ext fx lx) (ext fy ly) k)/\Row wr w.heap.size 177 .u32 lx (ext (ddg (ext fx lx) (ext fy ly)) k)/\Below w.heap.size w wr) (λ_ _ _ i _=>lx-(intOf i).toNat)
 case atStart=>exact⟨0,rfl,jb,rfl,hr3.congr (λj _=>by rw[jX jb]),hb3⟩
 case round=>
  obtain⟨k,rfl,hk,rfl,hrow,hbel⟩:=hrel;clear hr3 hb3 hz3;have c0:=UE (ext fx lx) (ext fy ly) k;have fk':=nT HX.out.2.1.1 k;have gk':=nT HY.out.2.1.1 k;have FK:=jx fk';have GK:=jx gk';have fk:=fk';have gk:=gk';rw[Dh]at fk gk;clear fk' gk';have q0:(0:Int)<=(Sj (ext fx lx) (ext fy ly) k:Int):=jb;have q1:(Sj (ext fx lx) (ext fy ly) k:Int)<=1:=jb;by_cases hlt:k<lx
  .rcases HX.out.2.2 with h0|⟨b1,o1,rfl,r1⟩
   .omega
   have hcx:=(r1.below hbel (r1.lt jb)) k hlt;rw[<-rO (f:=fx) hlt]at hcx;have hold:=hrow.cell (j:=k) jb;have hfr:=hrow.frozen k;rw[jX (cP k)]at hold;have f0:(0:Int)<=(ext fx lx k:Int):=jb;have f1:(ext fx lx k:Int)<=4294967295:=jb;have g0:(0:Int)<=(ext fy ly k:Int):=jb;have g1:(ext fy ly k:Int)<=4294967295:=jb;generalize hC:Sj (ext fx lx) (ext fy ly) k=C at*;generalize hF:ext fx lx k=F at*;have HC:=jx hC;have HF:=jx hF;clear hC hF;by_cases hlt2:k<ly
   .rcases HY.out.2.2 with h0|⟨b2,o2,rfl,r2⟩
    .omega
    have hcy:=(r2.below hbel (r2.lt jb)) k hlt2;rw[<-rO (f:=fy) hlt2]at hcy;generalize hG:ext fy ly k=G at*;have HG:=jx hG;clear hG;go_wp2_with (go_at_call 199;refine(AV _ _ _ _ f0 f1 g0 g1 q0 q1).mono ?_;rintro e w' ⟨rfl,rfl⟩)
    go_roundw
    case rel=>exact ac7 HF.out HG.out HC.out FK.out GK.out hrow hbel hlt
    case measure=>simp[intOf];omega
   .have hG0:ext fy ly k=0:=jX jb;have hnn:decide ((k:Int)<(ly:Int))=false:=by simp;omega
    rw[hG0]at g0 g1 GK;have HG:=jx hG0;clear hG0;go_wp2_with (go_at_call 199;refine(AV _ _ _ _ f0 f1 jb jb q0 q1).mono ?_;rintro e w' ⟨rfl,rfl⟩)
    go_roundw
    case rel=>exact ac7 (G:=0) HF.out HG.out HC.out FK.out GK.out hrow hbel hlt
    case measure=>simp[intOf];omega
  .obtain rfl:k=lx:=jb;have hs:=aqZ (f:=ext fx k) (g:=ext fy ly) (k:=k) (λj _=>nT HX.out.2.1.1 j) (λj _=>nT HY.out.2.1.1 j);have hlim:∀j,j<k->ext (ddg (ext fx k) (ext fy ly)) k j<LB:=λj hj=>by rw[rO hj];exact(aag (nT HX.out.2.1.1 j) (nT HY.out.2.1.1 j)).2
   have hfin:lv (ext (ddg (ext fx k) (ext fy ly)) k) k=x-y:=by
    have hlt:=KL hlim;have e0:=xU (f:=ddg (ext fx k) (ext fy ly)) (cP k);rw[e0]at hlt⊢;rw[xU (f:=fx) (cP k),xU hly,HX.out.1,HY.out.1]at hs;rcases(show Sj (ext fx k) (ext fy ly) k=0\/Sj (ext fx k) (ext fy ly) k=1 by omega)with c|c
    .rw[c]at hs;omega
    .rw[c]at hs;omega
   have HF:=jx hfin;have HL:=jx hlim;have HR:=jx hrow;clear hfin hlim hs hrow;go_wp2_with fail;refine(Dl w w.heap.size k 177 _ _ jb HR.out HL.out hbel).mono ?_;rintro e w' ⟨a,len,cap,rfl,h1,h2,h3,h4⟩;rw[HF.out]at h3;go_wp2;go_ret;exact⟨a,len,cap,rfl,h1,h2,h3,h4⟩
def aiZ(x y:Nat):Value:=if x<y then .tuple #[.string (bn 0),.bool false]else .tuple #[.string (bn (x-y)),.bool true]
def ac8{x y:Nat}(h:x<y):aiZ x y=.tuple #[.string (bn 0),.bool false]:=by unfold aiZ;rw[ae h]
def Yk{x y:Nat}(h:y<=x):aiZ x y=.tuple #[.string (bn (x-y)),.bool true]:=by unfold aiZ;rw[ab jb]
def Rj(a b:ByteArray)(w:World)(ha:a.size<=1073741824)(hb:b.size<=1073741824):
  Calls Tryz.prog 112 #[.string a,.string b] w λe w'=>e=.returned (aiZ (nv a) (nv b))/\Below w.heap.size w w':=by
 go_enter Tryz.func112,Tryz.ntmps112
 go_wp2_with fail
 refine(parse_any a _ ha).mono ?_;rintro e w1 ⟨ax,lx,cx,rfl,lcx,ccx,hX1,hb1⟩
 go_wp2_with fail
 refine(parse_any b _ hb).mono ?_;rintro e w2 ⟨ay,ly,cy,rfl,lcy,ccy,hY,hb2⟩
 have hX:=hX1.below hb2 jp
 have hll:=hX.vw
 have hlm:=hY.vw
 have HX:=jx hX
 have HY:=jx hY
 clear hX hY hX1
 go_wp2_with fail
 refine(zG _ _ _ _ _ _ _ _ _ HX.out HY.out jb jb).mono ?_
 rintro e w3 ⟨rfl,hb3⟩
 have HX3:=jx (HX.out.below hb3 jp)
 have HY3:=jx (HY.out.below hb3 jp)
 have abd:Below w.heap.size w w3:=hb1.trans ((hb2.mono hb1.size).trans (hb3.mono (ap hb1.size hb2.size)))
 clear HX HY hb1 hb2 hb3
 by_cases hc:nv a<nv b
 .have h1:decide (rU (nv a) (nv b)<0)=true:=by rw[zk hc];rfl
  have HN:=jx (ac8 hc)
  clear hc
  go_wp2
  go_ret2
  exact⟨by rw[HN.out];rfl,abd⟩
 .have h1:decide (rU (nv a) (nv b)<0)=false:=by unfold rU;rw[ab hc];split<;>rfl
  have hle:nv b<=nv a:=jb
  have HN:=jx (Yk hle)
  have HLE:=jx hle
  clear hc hle
  go_wp2_with fail
  refine(Vp _ _ _ _ _ _ _ _ _ HX3.out HY3.out HLE.out jb).mono ?_
  rintro e w4 ⟨ar,lr,cr,rfl,h2,h3,h4,h5⟩
  have h6:lr<=(a.size+3)/4:=h4.NW (cV (Nat.sub_le _ _) (OY a))
  go_wp2_with fail
  refine(Il _ _ _ _ _ h4 jb h2).mono ?_
  rintro e w5 ⟨rfl,h7⟩
  go_wp2
  go_ret2
  exact⟨by rw[HN.out];rfl,abd.trans ((h5.mono abd.size).trans (h7.mono (ap abd.size h5.size)))⟩
def ai0(u v o c:Nat)(hu:u<LB)(hv:v<LB)(ho:o<LB)(hc:c<LB):
  (0:Int)<=(u:Int)*v/\(u:Int)*v<=18446744065119617025/\(u:Int)*v+o+c<=18446744073709551615/\((((u:Int)*v+o+c)%4294967296)=(((u*v+o+c)%LB:Nat):Int))/\((((u:Int)*v+o+c)/4294967296)=(((u*v+o+c)/LB:Nat):Int)):=by
 have h1:u*v<=4294967295*4294967295:=cH (by unfold LB at hu;omega) (by unfold LB at hv;omega)
 have h2:((u:Int)*v)=((u*v:Nat):Int):=by push_cast;rfl
 rw[h2]
 generalize u*v=p at*
 unfold LB at*
 omega
def Vq(a b:ByteArray)(w:World)(ha:a.size<=1073741824)(hb:b.size<=1073741824):
  Calls Tryz.prog 62 #[.string a,.string b] w λe w'=>e=.returned (.string (bn (nv a*nv b)))/\Below w.heap.size w w':=by
 go_enter Tryz.func62,Tryz.ntmps62
 go_wp2_with fail
 refine(parse_any a _ ha).mono ?_;rintro e w1 ⟨ax,lx,cx,rfl,lcx,ccx,hX1,hb1⟩
 go_wp2_with fail
 refine(parse_any b _ hb).mono ?_;rintro e w2 ⟨ay,ly,cy,rfl,lcy,ccy,hY,hb2⟩
 have hX:=hX1.below hb2 jp
 have hll:=hX.vw
 have hlm:=hY.vw
 obtain⟨fx,hX⟩:=hX
 obtain⟨fy,hY⟩:=hY
 have HX:Hid (JW w2 ax lx (nv a) fx):=hX
 have HY:Hid (JW w2 ay ly (nv b) fy):=hY
 clear hX hY hX1
 have Vr:Below w.heap.size w w2:=hb1.trans (hb2.mono hb1.size)
 clear hb1 hb2
 obtain⟨N,hN1,hN2⟩:∃N,N<=lx+ly/\lx+ly<=N:=⟨_,jp,jp⟩
 go_wp2_with (refine iE _ _ 175 177 .u32 4 N _ rfl rfl Tryz.underlying175 xu rfl rfl jb jb jb ?_;intro w3 hr3 hb3 hz3)
 go_loopw [26] (λi wr=>∃k:Nat,i=.int .i64 k/\k<=lx/\(∃O,Row wr w2.heap.size 177 .u32 N O/\lv O N=lv fx k*lv fy ly/\(∀j,j<N->O j<LB)/\(∀j,k+ly<=j->O j=0))/\Below w2.heap.size w2 wr) (λi _=>lx-(intOf i).toNat)
 case atStart=>exact⟨0,rfl,jb,⟨_,hr3,by rw[NJ (λ_ _=>rfl),alX,im],λ_ _=>lT,λ_ _=>rfl⟩,hb3⟩
 case round=>
  obtain⟨k,rfl,hk,⟨O,hrow,hO1,hO2,hO3⟩,hbel⟩:=hrel;clear hr3 hb3 hz3;by_cases hlt:k<lx
  .rcases HX.out.2.2 with h0|⟨b1,o1,rfl,r1⟩
   .omega
   have hcx:=(r1.below hbel (r1.lt jb)) k hlt;have fk':=HX.out.2.1.1 k hlt;have FK:=jx fk';have uS:=jx hrow;have HO1:=jx hO1;have HO2:=jx hO2;have HO3:=jx hO3;clear fk' hrow hO1 hO2 hO3 r1;obtain⟨wo,hwo⟩:∃wo,wo=wr:=⟨_,rfl⟩
   generalize hU:fx k=U at*;have HU:=jx hU;clear hU;have U0:(0:Int)<=(U:Int):=jb;have U1:(U:Int)<=4294967295:=by have:=FK.out;unfold LB at this;omega
   subst hwo;go_wp2;go_loopw [10,33] (λc i wi=>∃m:Nat,i=.int .i64 m/\m<=ly/\(∃C O',c=.int .u64 (C:Nat)/\NV O O' N k m C U fy/\Row wi w2.heap.size 177 .u32 N O')/\Below w2.heap.size w2 wi) (λ_ i _=>ly-(intOf i).toNat)
   case atStart=>exact⟨0,rfl,jb,⟨0,O,rfl,aey HO2.out,uS.out⟩,hbel⟩
   case round=>
    obtain⟨m,rfl,hm,⟨C,O',rfl,hmul,hrow⟩,ai1⟩:=hrel;have hC:=hmul.2.2.2;have C0:(0:Int)<=(C:Int):=jb;have C1:(C:Int)<=4294967295:=by unfold LB at hC;omega
    by_cases hlt2:m<ly
    .rcases HY.out.2.2 with h0|⟨b2,o2,rfl,r2⟩
     .omega
     have hcy:=(r2.below ai1 (r2.lt jb)) m hlt2;have hold:=hrow.cell (j:=k+m) jb;have hfr:=hrow.frozen (k+m);have gk:=HY.out.2.1.1 m hlt2;have ok:=hmul.2.1 (k+m) jb;have hst:=ag8 hmul FK.out gk jb;have hcv:=ai0 U (fy m) (O' (k+m)) C FK.out gk ok hC;have HST:=jx hst;have ai2:=jx hrow;obtain⟨cv1,cv2,cv3,cv4,cv5⟩:=hcv;have V0:(0:Int)<=(fy m:Int):=jb;have V1:(fy m:Int)<=4294967295:=by unfold LB at gk;omega
     have W0:(0:Int)<=(O' (k+m):Int):=jb;have W1:(O' (k+m):Int)<=4294967295:=by unfold LB at ok;omega
     have CV4:=jx cv4;have CV5:=jx cv5;clear hst hrow hmul r2 cv4 cv5 hC gk ok;go_wp2;go_roundw
     case rel=>
      refine⟨m+1,by go_num,jb,⟨_,_,by rw[CV5.out],HST.out,?_⟩,ai1.setCell jp _⟩;rw[CV4.out];exact ai2.out.set _ _
     case measure=>simp[intOf];omega
    .obtain rfl:m=ly:=jb;have hold:=hrow.cell (j:=k+m) jb;have hfr:=hrow.frozen (k+m);have hen:=alZ hmul jb HO3.out HO1.out;have HEN:=jx hen;have ai2:=jx hrow;clear hmul hen hrow hC;go_wp2;go_roundw
     case rel=>
      refine⟨k+1,by go_num,jb,⟨_,ai2.out.set (k+m) C,?_,HEN.out.2.1,λj hj=>HEN.out.2.2 j jb⟩,ai1.setCell jp _⟩;rw[HEN.out.1,gI,HU.out]
     case measure=>simp[intOf];omega
  .obtain rfl:k=lx:=jb;obtain rfl:N=k+ly:=jb;rw[HX.out.1,HY.out.1]at hO1;have uS:=jx hrow;have HO1:=jx hO1;have HO2:=jx hO2;clear hrow hO1 hO2 hO3;by_cases hN0:k+ly=0
   .obtain rfl:k=0:=jb;obtain rfl:ly=0:=jb;go_wp2_with fail;refine(SA _ _ _).mono ?_;rintro e w' ⟨rfl,hbt⟩;have e0:nv a*nv b=0:=by rw[<-HO1.out];rfl
    have E0:=jx e0;clear e0;go_wp2;go_ret;exact⟨EI (by rw[E0.out]),Vr.trans ((hbel.mono Vr.size).trans (hbt.mono (ap Vr.size hbel.size)))⟩
   .go_wp2_with fail;refine(Aw w2.heap.size 0 (k+ly) (k+ly) O _ jb jb uS.out.reads HO2.out).mono ?_;rintro e w' ⟨rfl,hbt⟩;rw[HO1.out];go_wp2;go_ret;exact⟨rfl,Vr.trans ((hbel.mono Vr.size).trans (hbt.mono (ap Vr.size hbel.size)))⟩
end Go.Proofs.Ins
