import Derived.Test.YtjhhfbbndfpdaaaGreatDoorYg1
import Derived.Lib.BitFns
import Derived.Test.YtjhhfbbndfpdaaaGreatDoorProg
import Derived.Deep.QuietTactic
import Derived.Lib.Strings
import Derived.Lib.Hide
import Derived.Lib.Bytealg
import Derived.Test.YtjhhfbbndfpdaaaGreatDoorTie
import Derived.ProofKit
import Derived.OpenShut
import Derived.Deep.Slices
import Derived.Deep.Strs
import Derived.Lib.SmallJoins
import Derived.Carry
import Derived.LaidMore
import Derived.Stop.Joined
set_option linter.all false
set_option maxRecDepth 100000
set_option maxHeartbeats 8000000
namespace Go.Proofs.Ins
def hv(f:Nat->Nat)(m n:Nat):Nat:=lv (λj=>f (m+j)) (n-m)
theorem aij(f:Nat->Nat)(n:Nat):hv f n n=0:=by unfold hv;rw[Nat.sub_self];rfl
theorem adB(f:Nat->Nat)(n:Nat):hv f 0 n=lv f n:=by unfold hv;simp
theorem VR(f:Nat->Nat){m n:Nat}(h:m<n):hv f m n=f m+LB*hv f (m+1) n:=by
 unfold hv;obtain⟨d,hd⟩:∃d,n-m=d+1:=⟨n-m-1,jb⟩
 grind[Ya]
theorem Yk{f g:Nat->Nat}{m n:Nat}(h:∀j,m<=j->j<n->f j=g j):hv f m n=hv g m n:=
 jH λj hj=>h _ jb jb
def Kq(f O:Nat->Nat)(n m d r:Nat):Prop:=hv f m n=d*hv O m n+r/\r<d/\(∀j,m<=j->j<n->O j<LB)
def Uj(f O:Nat->Nat)(n d:Nat)(hd:0<d):Kq f O n n d 0:=⟨by grind[aij],hd,λj h1 h2=>jb⟩
def Yl{f O:Nat->Nat}{n m d r:Nat}(h:Kq f O n (m+1) d r)(hm:m<n)(hf:f m<LB):
  Kq f (upd O m ((r*LB+f m)/d)) n m d ((r*LB+f m)%d):=by
 obtain⟨h1,h2,h3⟩:=h
 have hd:0<d:=jb
 have hq:(r*LB+f m)/d<LB:=by
  apply dX;have:r*LB+LB<=d*LB:=by rw[<-cj];exact bh _ h2
  omega
 refine⟨?_,cA _ hd,?_⟩
 .rw[VR f hm,VR _ hm,upd_same,Yk (g:=O) (λj h4 h5=>bW _ _ _ jb),h1]
  have hx:=dt (r*LB+f m) d
  generalize (r*LB+f m)/d=q at*
  generalize (r*LB+f m)%d=s at*
  generalize hv O (m+1) n=Q at*
  rw[Nat.mul_add,Nat.mul_add]
  have e:LB*(d*Q)=d*(LB*Q):=by rw[<-eN,<-eN,cR LB d]
  have e2:LB*r=r*LB:=cR _ _
  omega
 .intro j h4 h5
  by_cases e:j=m
  .subst e;rw[upd_same];exact hq
  .rw[bW _ _ _ e];exact h3 j jb h5
def adC{f O:Nat->Nat}{n d r:Nat}(h:Kq f O n 0 d r):lv O n=lv f n/d/\r=lv f n%d/\∀j,j<n->O j<LB:=by obtain⟨h1,h2,h3⟩:=h;grind[Go.Proofs.Ins.adB,Nat.mul_add_div,Nat.div_eq_of_lt,Nat.mul_add_mod,Nat.mod_eq_of_lt]
theorem DT{s:Nat}(hs:s<=32):LB=2^(32-s)*2^s:=by rw[<-dT,Nat.sub_add_cancel hs];rfl
def Af(f O:Nat->Nat)(N i s:Nat):Prop:=lv O (i+1)=lv f i*2^s/\(∀j,j<N->O j<LB)/\O i<2^s/\(∀j,i<j->O j=0)
def Uk(f:Nat->Nat)(N s:Nat):Af f (λ_=>0) N 0 s:=
 ⟨by simp[lv],λ_ _=>jf,dp jb,λ_ _=>rfl⟩
theorem NQ{u s:Nat}(hs:s<32):(u*2^s)%LB=(u%2^(32-s))*2^s:=by grind[DT,Nat.mul_mod_mul_right]
theorem IE{c u s:Nat}(hs:s<32)(hc:c<2^s):c+(u%2^(32-s))*2^s<LB:=by
 have h1:u%2^(32-s)<2^(32-s):=cA _ (dp jb);have h2:(u%2^(32-s))*2^s+2^s<=2^(32-s)*2^s:=by rw[<-cj];exact bh _ h1
 grind[DT]
def OX{u s:Nat}(hs:s<32)(hu:u<LB):(u*2^s)/LB<2^s:=by apply dX;simp_all[dp]
def Ym{f O:Nat->Nat}{N i s:Nat}(h:Af f O N i s)(hs:s<32)(hf:f i<LB)(hi:i+1<N):
  Af f (upd (upd O i (O i+(f i%2^(32-s))*2^s)) (i+1) ((f i*2^s)/LB)) N (i+1) s:=by
 obtain⟨h1,h2,h3,h4⟩:=h
 have hh:=OX hs hf
 refine⟨?_,?_,?_,?_⟩
 .rw[dB,upd_same,AV _ jp,dB,upd_same,AV _ jp]
  rw[dB]at h1
  rw[<-NQ hs,dB,de]
  grind[Nat.div_add_mod]
 .intro j hj
  by_cases e:j=i+1
  .grind[upd_same,Nat.lt_of_lt_of_le,DT,Nat.le_mul_of_pos_left]
  .rw[bW _ _ _ e]
   by_cases e2:j=i
   .simp_all[upd_same,IE]
   grind[bW]
 .grind[upd_same]
 grind[bW]
def aik{f O:Nat->Nat}{i s:Nat}(h:Af f O (i+1) i s)(hs:s<32)(hf:f i*2^s<LB):
  lv (upd O i (O i+(f i%2^(32-s))*2^s)) (i+1)=lv f (i+1)*2^s/\∀j,j<i+1->upd O i (O i+(f i%2^(32-s))*2^s) j<LB:=by
 obtain⟨h1,h2,h3,h4⟩:=h
 grind[dB,upd_same,AV,NQ,Nat.mod_eq_of_lt,IE,bW]
def IG(f:Nat->Nat)(s i:Nat):Nat:=(f i+LB*f (i+1))/2^s%LB
theorem am8{f:Nat->Nat}{s i:Nat}(hs:s<32)(hf:f i<LB):2^s*IG f s i+f i%2^s=f i+LB*(f (i+1)%2^s):=by
 have hp:0<2^s:=dp jb;have hL:=DT (it hs);have h1:(f i+LB*f (i+1))/2^s=f i/2^s+2^(32-s)*f (i+1):=by grind[Nat.mul_comm,Nat.mul_assoc,Nat.add_mul_div_left]
 have h2:f i/2^s<2^(32-s):=by simp_all[dX,cR]
 have h3:IG f s i=f i/2^s+2^(32-s)*(f (i+1)%2^s):=by
  unfold IG;rw[h1];have e1:=dt (f (i+1)) (2^s);have e2:f i/2^s+2^(32-s)*f (i+1)=LB*(f (i+1)/2^s)+(f i/2^s+2^(32-s)*(f (i+1)%2^s)):=by grind
  rw[e2,Nat.mul_add_mod];apply bA;have e3:f (i+1)%2^s<2^s:=cA _ hp;have e4:2^(32-s)*(f (i+1)%2^s)+2^(32-s)<=2^(32-s)*2^s:=by rw[<-ir];exact cf _ e3
  omega
 grind[Nat.div_add_mod]
def ash{f:Nat->Nat}{s n:Nat}(hs:s<32)(hf:∀j,j<n->f j<LB):2^s*lv (IG f s) n+f 0%2^s=lv f n+LB^n*(f n%2^s):=by
 induction n with
 |zero=>simp[lv]
 |succ k ih=>
  grind[am8,dB]
def adE{f:Nat->Nat}{s n x:Nat}(hs:s<32)(hf:∀j,j<n->f j<LB)(h0:f n=0)(hx:lv f n=x*2^s):lv (IG f s) n=x:=by have hp:0<2^s:=dp jb;have h:=ash hs hf;rw[h0,Nat.zero_mod,iu,bO,hx]at h;have h1:f 0%2^s<2^s:=cA _ hp;grind[Nat.mul_add_div,Nat.div_eq_of_lt,Nat.mul_div_cancel]
structure OY(U V top u2 d1 d2 p g r:Nat):Prop where
 sum:g*d1+r=top
 ge:U/V<=g
 le:top<=d1*LB+(LB-1)
structure Kr(U V top u2 d1 d2 p:Nat):Prop where
 ail:0<p
 d_pos:0<d1
 aw1:u2<LB
 aq6:d2<LB
 aw2:top*LB*p+u2*p<=U
 aq7:U<top*LB*p+u2*p+p
 asi:d1*LB*p+d2*p<=V
 aq8:V<d1*LB*p+d2*p+p
 fits:U<V*LB
 norm:LB<=2*d1
def Kr.ain{U V top u2 d1 d2 p:Nat}(h:Kr U V top u2 d1 d2 p):0<V:=by have:=h.fits;grind
def Kr.top_le{U V top u2 d1 d2 p:Nat}(h:Kr U V top u2 d1 d2 p):top<=d1*LB+(LB-1):=by
 have h1:=h.aw2;have h2:=h.fits;have h3:=h.aq8;have h4:=h.aq6;have hp:=h.ail;have h5:V*LB<=((d1+1)*LB)*p*LB:=by
  apply bh;have e1:d2*p+p<=LB*p:=by rw[<-cj];exact bh _ h4
  have e2:(d1+1)*LB*p=d1*LB*p+LB*p:=by rw[gN,Nat.one_mul,gN]
  omega
 have h6:top*LB*p<(d1+1)*LB*p*LB:=jb;have h7:top*(LB*p)<((d1+1)*LB)*(LB*p):=by
  have e1:top*(LB*p)=top*LB*p:=(eN _ _ _).symm;have e2:((d1+1)*LB)*(LB*p)=(d1+1)*LB*p*LB:=by rw[cR LB p,<-eN]
  omega
 have h8:=fg h7;have e:(d1+1)*LB=d1*LB+LB:=by rw[gN,Nat.one_mul]
 have:=jf;omega
def Kr.start{U V top u2 d1 d2 p:Nat}(h:Kr U V top u2 d1 d2 p):OY U V top u2 d1 d2 p (top/d1) (top%d1):=by
 refine⟨by grind[Nat.div_add_mod],?_,h.top_le⟩;rw[Nat.le_div_iff_mul_le h.d_pos];have h1:U/V*V<=U:=Nat.div_mul_le_self _ _;generalize U/V=q at*;have h2:q*(d1*LB*p)<=q*V:=cf _ (by have:=h.asi;omega);have h3:=h.aq7;have h4:=h.aw1;have hp:=h.ail;have e1:u2*p+p<=LB*p:=by rw[<-cj];exact bh _ h4
 have e2:q*(d1*LB*p)=q*d1*(LB*p):=by grind
 have e3:(top+1)*(LB*p)=top*LB*p+LB*p:=by grind
 have h5:q*d1*(LB*p)<(top+1)*(LB*p):=jb;have:=fg h5;omega
def Kr.lower{U V top u2 d1 d2 p g r:Nat}(h:Kr U V top u2 d1 d2 p)(hg:OY U V top u2 d1 d2 p g r)(hc:LB<=g\/r*LB+u2<g*d2):
  0<g/\OY U V top u2 d1 d2 p (g-1) (r+d1):=by
 have hV:=h.ain
 have hq:U/V<g:=by
  rcases hc with hc|hc
  .have:U/V<LB:=dX h.fits;omega
  .rcases df (U/V) g with hx|hx
   .exact hx
   .exfalso;have h1:U/V*V<=U:=Nat.div_mul_le_self _ _;have h2:g*V<=U:=ar (bh _ hx) h1;have h3:g*(d1*LB*p+d2*p)<=g*V:=cf _ h.asi;have h4:=h.aq7;have h5:=hg.sum;have e1:g*(d1*LB*p+d2*p)=(g*d1*LB+g*d2)*p:=by grind
    have e2:top*LB*p+u2*p+p=(top*LB+u2+1)*p:=by grind
    have h6:(g*d1*LB+g*d2)*p<(top*LB+u2+1)*p:=jb;have h7:=fg h6;have e3:top*LB=g*d1*LB+r*LB:=by grind
    omega
 have hpos:0<g:=cW (aM _) hq
 refine⟨hpos,?_,Nat.le_sub_one_of_lt hq,hg.le⟩
 have h5:=hg.sum
 have:g*d1=(g-1)*d1+d1:=by
  obtain⟨k,rfl⟩:∃k,g=k+1:=⟨g-1,jb⟩
  grind
 omega
def Kr.done{U V top u2 d1 d2 p g r:Nat}(h:Kr U V top u2 d1 d2 p)(hg:OY U V top u2 d1 d2 p g r)(hc:(g<LB/\g*d2<=r*LB+u2)\/LB<=r):
  g<LB/\g<=U/V+1:=by
 have hV:=h.ain
 have hs:=hg.sum
 have hgl:g<LB:=by
  rcases hc with hc|hc
  .exact hc.1
  .have h1:=hg.le;have h2:g*d1<LB*d1:=by grind[jf]
   exact fg h2
 have hle:g*d2<=r*LB+u2:=by
  rcases hc with hc|hc
  .exact hc.2
  .have h1:g*d2<=LB*LB:=cG (it hgl) (it h.aq6);grind[LB]
 refine⟨hgl,?_⟩
 have hp:=h.ail
 have h1:g*(d1*LB*p+d2*p)<=U:=by
  have e1:g*(d1*LB*p+d2*p)=(g*d1*LB+g*d2)*p:=by grind
  have e3:top*LB=g*d1*LB+r*LB:=by grind
  have e4:(g*d1*LB+g*d2)*p<=(top*LB+u2)*p:=bh _ jb;have e5:(top*LB+u2)*p=top*LB*p+u2*p:=by grind
  have:=h.aw2;omega
 have h2:g*V<=g*(d1*LB*p+d2*p)+g*p:=by rw[<-Nat.mul_add];exact cf _ (by have:=h.aq8;omega)
 have h3:g*p<LB*p:=et hgl hp
 have h4:LB*p<=V:=by have:=h.asi;have e:1*(LB*p)<=d1*(LB*p):=bh _ h.d_pos;grind
 have h5:g*V<U+V:=jb
 rcases cY g with e|e
 .grind
 .have h6:(g-1)*V+V=g*V:=by
   obtain⟨k,rfl⟩:∃k,g=k+1:=⟨g-1,jb⟩
   grind
  have h7:(g-1)*V<=U:=jb
  have:=(Nat.le_div_iff_mul_le hV).mpr h7
  omega
def Kr.small{U V top u2 d1 d2 p g r:Nat}(h:Kr U V top u2 d1 d2 p)(hg:OY U V top u2 d1 d2 p g r):g<=LB+1:=by
 have h1:=hg.sum;have h2:=hg.le;have h3:=h.norm;rcases df g (LB+2)with c|c
 .omega
 .have h4:(LB+2)*d1<=g*d1:=bh _ c;grind[jf]
def wv(G:Nat->Nat)(off k:Nat):Nat:=lv (λj=>G (off+j)) k
theorem vH(G:Nat->Nat)(off k:Nat):wv G off (k+1)=wv G off k+LB^k*G (off+k):=rfl
def asj(G:Nat->Nat)(off k v:Nat):wv (upd G (off+k) v) off k=wv G off k:=
 jH λj hj=>bW _ _ _ jb
theorem zI(G:Nat->Nat)(off k v:Nat):wv (upd G (off+k) v) off (k+1)=wv G off k+LB^k*v:=by rw[vH,asj,upd_same]
def adF{G:Nat->Nat}{off k N:Nat}(h:∀j,j<N->G j<LB)(hk:off+k<=N):wv G off k<LB^k:=
 Dy λj hj=>h _ jb
structure Kt(N off g k C B:Nat)(d G G':Nat->Nat):Prop where
 sum:wv G' off k+g*lv d k=wv G off k+LB^k*(C+B)
 old:∀j,(j<off\/off+k<=j)->G' j=G j
 lt:∀j,j<N->G' j<LB
 asl:C<LB
 aw3:B<=1
def OZ{N off g:Nat}{d G:Nat->Nat}(h:∀j,j<N->G j<LB):Kt N off g 0 0 0 d G G:=
 ⟨by rfl,λ_ _=>rfl,h,jf,jb⟩
def Ku{N off g k C B dk x:Nat}{d G G':Nat->Nat}(h:Kt N off g k C B d G G')(hg:g<LB)(hd:d k<LB)(hk:off+k<N)
  (hx:G' (off+k)=x) (hdk:dk+(g*d k+C)%LB+B=x+LB*(if x<(g*d k+C)%LB+B then 1 else 0)) (hlt:dk<LB):
  Kt N off g (k+1) ((g*d k+C)/LB) (if x<(g*d k+C)%LB+B then 1 else 0) d G (upd G' (off+k) dk):=by
 have hx2:G (off+k)=x:=by rw[<-hx];exact(h.old _ (.inr jp)).symm
 refine⟨?_,?_,?_,?_,by grind⟩
 .have hs:=h.sum
  grind[zI,vH,dB,Nat.div_add_mod,LB]
 .intro j hj
  rw[bW _ _ _ jb];exact h.old j jb
 .intro j hj
  by_cases e:j=off+k
  .grind[upd_same]
  .rw[bW _ _ _ e];exact h.lt j hj
 .apply dX
  have h1:g*d k<=(LB-1)*(LB-1):=cG jb jb
  have h2:=h.asl
  grind[LB]
def Kv{N off g n C B dk x:Nat}{d G G':Nat->Nat}(h:Kt N off g n C B d G G')(hk:off+n<N)
  (hx:G' (off+n)=x) (hdk:dk+C+B=x+LB*(if x<C+B then 1 else 0)) (hlt:dk<LB):
  wv (upd G' (off+n) dk) off (n+1)+g*lv d n=wv G off (n+1)+LB^(n+1)*(if x<C+B then 1 else 0)/\
   (∀j,(j<off\/off+n+1<=j)->upd G' (off+n) dk j=G j)/\∀j,j<N->upd G' (off+n) dk j<LB:=by
 have hx2:G (off+n)=x:=by rw[<-hx];exact(h.old _ (.inr jp)).symm
 refine⟨?_,?_,?_⟩
 .have hs:=h.sum
  grind[zI,vH]
 .intro j hj
  rw[bW _ _ _ jb];exact h.old j jb
 .intro j hj
  by_cases e:j=off+n
  .grind[upd_same]
  .rw[bW _ _ _ e];exact h.lt j hj
def O1{U V g W:Nat}(hg1:g<=U/V+1)(hg2:U/V<=g)(hV:0<V)(h:W+g*V=U):g=U/V/\W=U%V:=by grind[Nat.le_div_iff_mul_le,Nat.le_antisymm,Nat.div_add_mod]
def O4{U V g W P:Nat}(hg1:g<=U/V+1)(hV:0<V)(h:W+g*V=U+P)(hW:W<P):g=U/V+1/\W+V=P+U%V:=by grind[Nat.div_lt_iff_lt_mul,Nat.le_antisymm,Nat.div_add_mod]
structure Fp(N off k C:Nat)(d G G':Nat->Nat):Prop where
 sum:wv G' off k+LB^k*C=wv G off k+lv d k
 old:∀j,(j<off\/off+k<=j)->G' j=G j
 lt:∀j,j<N->G' j<LB
 asn:C<=1
def MB{N off:Nat}{d G:Nat->Nat}(h:∀j,j<N->G j<LB):Fp N off 0 0 d G G:=
 ⟨by rfl,λ_ _=>rfl,h,jb⟩
def O5{N off k C x:Nat}{d G G':Nat->Nat}(h:Fp N off k C d G G')(hd:d k<LB)(hk:off+k<N)(hx:G' (off+k)=x):
  Fp N off (k+1) ((x+d k+C)/LB) d G (upd G' (off+k) ((x+d k+C)%LB)):=by
 have hx2:G (off+k)=x:=by rw[<-hx];exact(h.old _ (.inr jp)).symm
 have hxl:x<LB:=by rw[<-hx];exact h.lt _ hk
 refine⟨?_,?_,?_,?_⟩
 .have hs:=h.sum
  grind[zI,vH,dB,Nat.div_add_mod]
 .intro j hj
  rw[bW _ _ _ jb];exact h.old j jb
 .intro j hj
  by_cases e:j=off+k
  .simp_all[upd_same,cA,jf]
  .rw[bW _ _ _ e];exact h.lt j hj
 .have:=h.asn
  grind[LB]
def abk{a b p r c x C L q R:Nat}(h1:a+p*C=b+L)(hs:b+p*x+L=p*q+R)(hm:q*c+r=x+C):a+p*r+p*q*c=p*q+R:=by grind
def O6{N off n C x R:Nat}{d G G':Nat->Nat}(h:Fp N off n C d G G')(hk:off+n<N)(hx:G' (off+n)=x)
  (hs:wv G off (n+1)+lv d n=LB^(n+1)+R) (hR:R<LB^(n+1)):
  wv (upd G' (off+n) ((x+C)%LB)) off (n+1)=R/\
   (∀j,(j<off\/off+n+1<=j)->upd G' (off+n) ((x+C)%LB) j=G j)/\∀j,j<N->upd G' (off+n) ((x+C)%LB) j<LB:=by
 have hx2:G (off+n)=x:=by rw[<-hx];exact(h.old _ (.inr jp)).symm
 have hlt:∀j,j<N->upd G' (off+n) ((x+C)%LB) j<LB:=by
  intro j hj;by_cases e:j=off+n
  .simp_all[upd_same,cA,jf]
  .rw[bW _ _ _ e];exact h.lt j hj
 refine⟨?_,?_,hlt⟩
 .have hw:=adF (off:=off) (k:=n+1) hlt jb
  have h1:=h.sum
  have hm:=dt (x+C) LB
  rw[zI]at hw⊢
  rw[vH,hx2]at hs
  rw[de]at*
  generalize (x+C)/LB=c' at*
  generalize (x+C)%LB=r at*
  generalize LB^n=p at*
  generalize wv G' off n=a at*
  generalize wv G off n=b at*
  have e3:a+p*r+p*LB*c'=p*LB+R:=abk h1 hs hm
  have e4:(a+p*r+p*LB*c')%(p*LB)=(p*LB+R)%(p*LB):=by rw[e3]
  rw[Nat.add_mul_mod_self_left,bA hw,Nat.add_mod_left,bA hR]at e4
  exact e4
 .intro j hj
  rw[bW _ _ _ jb];exact h.old j jb
structure xK(N n q m V U0:Nat)(G O:Nat->Nat):Prop where
 sum:U0=V*LB^m*hv O m q+lv G (m+n)
 top:wv G m n<V
 lO:∀j,m<=j->j<q->O j<LB
 lG:∀j,j<N->G j<LB
 zero:m<q->G (m+n)=0
def O7{N n q V U0:Nat}{G O:Nat->Nat}(hU:lv G N=U0)(hN:q+n=N)(hlt:U0<LB^q*V)(lG:∀j,j<N->G j<LB):xK N n q q V U0 G O:=by
 refine⟨by grind[aij],?_,λj h1 h2=>jb,lG,λh=>jb⟩;have h1:=yt G q n;rw[hN,hU]at h1;have h2:LB^q*wv G q n<LB^q*V:=by unfold wv;omega
 exact Nat.lt_of_mul_lt_mul_left h2
def zJ{N n q i V U0:Nat}{G O:Nat->Nat}(h:xK N n q (i+1) V U0 G O)(hi:i<N):wv G i (n+1)<V*LB:=by
 have h1:wv G i (n+1)=G i+LB*wv G (i+1) n:=by grind[wv,Ya]
 have h2:=h.lG i hi;have h3:wv G (i+1) n*LB+LB<=V*LB:=by rw[<-cj];exact bh _ h.top
 grind
def Kw{N n q i V U0:Nat}{G G' O:Nat->Nat}(h:xK N n q (i+1) V U0 G O)(hi:i<q)(hV:0<V)(hVn:V<LB^n)(hN:i+n+1<=N)
  (hw:wv G' i (n+1)=wv G i (n+1)%V) (old:∀j,(j<i\/i+n+1<=j)->G' j=G j) (lG:∀j,j<N->G' j<LB):
  xK N n q i V U0 G' (upd O i (wv G i (n+1)/V)):=by
 have hwin:=zJ h jb
 have hmod:=cA (wv G i (n+1)) hV
 have aw4:G' (i+n)=0:=by
  have h1:=vH G' i n;rw[hw]at h1;rcases cY (G' (i+n))with e|e
  .exact e
  .have:LB^n*1<=LB^n*G' (i+n):=cf _ e;omega
 have hw2:wv G' i n=wv G i (n+1)%V:=by grind[vH]
 refine⟨?_,jb,?_,lG,λ_=>aw4⟩
 .have hs:=h.sum
  have e1:lv G (i+1+n)=lv G i+LB^i*wv G i (n+1):=by rw[show i+1+n=i+(n+1) by omega];exact yt G i (n+1)
  have e2:lv G' (i+n)=lv G i+LB^i*(wv G i (n+1)%V):=by simp_all[yt,jH,wv]
  have e3:hv (upd O i (wv G i (n+1)/V)) i q=wv G i (n+1)/V+LB*hv O (i+1) q:=by grind[VR,upd_same,Yk,bW]
  rw[e1]at hs
  rw[e2,e3]
  have hd:=dt (wv G i (n+1)) V
  grind
 .intro j h1 h2
  by_cases e:j=i
  .simp_all[upd_same,dX]
  .rw[bW _ _ _ e];exact h.lO j jb h2
def Yn{N n q s x y U0:Nat}{G O:Nat->Nat}(h:xK N n q 0 (y*2^s) U0 G O)(hU:U0=x*2^s):
  lv O q=x/y/\lv G n=x%y*2^s/\(∀j,j<q->O j<LB):=by
 have hp:0<2^s:=dp jb
 have h1:=h.sum
 have h2:=h.top
 rw[adB,Nat.pow_zero,eC,ck]at h1
 have h3:wv G 0 n=lv G n:=jH λj _=>by simp
 rw[h3]at h2
 have hy:0<y:=by grind
 have hV:0<y*2^s:=bX hy hp
 have h4:U0/(y*2^s)=lv O q:=by grind[Nat.mul_add_div,Nat.div_eq_of_lt]
 have h5:U0%(y*2^s)=lv G n:=by grind[Nat.mul_add_mod,Nat.mod_eq_of_lt]
 refine⟨?_,?_,λj hj=>h.lO j (aM _) hj⟩
 .grind[Nat.mul_div_mul_right]
 grind[Nat.mul_mod_mul_right]
def Yo{D f:Nat->Nat}{n s:Nat}(hn:0<n)(hD:lv D n=lv f n*2^s)(lD:∀j,j<n->D j<LB)(hs:LB<=2*(f (n-1)*2^s)):LB<=2*D (n-1):=by
 obtain⟨k,rfl⟩:∃k,n=k+1:=⟨n-1,jb⟩
 rw[iz]at*;rcases df (2*D k) LB with h|h
 .exfalso;have h1:lv D (k+1)<LB^k*(D k+1):=by rw[dB,ir];have:=Dy (f:=D) (n:=k) (λj hj=>lD j jb);omega
  have h2:LB^k*f k*2^s<=lv f (k+1)*2^s:=bh _ (by rw[dB];omega);have h3:LB^k*LB<=LB^k*(2*(f k*2^s)):=cf _ hs;have h4:LB^k*(2*(D k+1))<=LB^k*LB:=cf _ (by grind[LB]);grind
 .exact h
def Ul{fx fy:Nat->Nat}{lx ly q s:Nat}(hx:Can fx lx)(hy:Can fy ly)(hly:0<ly)(hq:q+ly=lx+1):lv fx lx*2^s<LB^q*(lv fy ly*2^s):=by
 have h1:=hx.lt;have h2:=hy.ge hly;have e:LB^lx=LB^q*LB^(ly-1):=by rw[<-dT,show q+(ly-1)=lx by omega]
 have h3:LB^q*LB^(ly-1)<=LB^q*lv fy ly:=cf _ h2;rw[<-eN];exact et jb (dp jb)
def rQ(x y:Nat):Int:=if x<y then-1 else if y<x then 1 else 0
theorem qM{x y:Nat}(h:x<y):rQ x y=-1:=by grind[rQ]
theorem qN{x y:Nat}(h:y<x):rQ x y=1:=by grind[rQ]
theorem zK(x:Nat):rQ x x=0:=by grind[rQ]
def Um{x y:Nat}(h:(bn x).size<(bn y).size):x<y:=by have h1:(Na x).length<(Na y).length:=h;have h2:=Mc (Na x);have h3:256^((Na y).length-1)<=bv (Na y):=Ug (Iq y) kd;rw[OJ]at h2 h3;have:256^(Na x).length<=256^((Na y).length-1):=bq jb jb;omega
def oO(s:ByteArray):(bn (nv s)).size<=s.size:=oM (Yc s)
structure II(n off N:Nat)(G d:Nat->Nat):Prop where
 n2:2<=n
 fits:off+n+1<=N
 big:N<=1073741826
 lG:∀j,j<N->G j<LB
 lD:∀j,j<n->d j<LB
 norm:LB<=2*d (n-1)
 less:wv G off (n+1)<lv d n*LB
def II.aw5{n off N:Nat}{G d:Nat->Nat}(h:II n off N G d):
  Kr (wv G off (n+1)) (lv d n) (G (off+n)*LB+G (off+(n-1))) (G (off+(n-2))) (d (n-1)) (d (n-2)) (LB^(n-2)):=by
 obtain⟨m,rfl⟩:∃m,n=m+2:=⟨n-2,by have:=h.n2;omega⟩
 have hfit:=h.fits
 have f1:=h.lG (off+m) jb
 have f2:=h.lD m jb
 have f3:=h.less
 have f4:=h.norm
 have hp:0<LB^m:=dp jf
 have e1:m+2-1=m+1:=jb
 have e2:m+2-2=m:=jb
 rw[e1]at f4
 rw[e1,e2]
 have g1:wv G off (m+2+1)=wv G off m+LB^m*G (off+m)+LB^m*LB*G (off+(m+1))+LB^m*LB*LB*G (off+(m+2)):=by rw[vH,vH,vH,de LB (m+1),de LB m]
 have g2:lv d (m+2)=lv d m+LB^m*d m+LB^m*LB*d (m+1):=by rw[dB,dB,de]
 have g3:=adF (off:=off) (k:=m) h.lG jb
 have g4:=Dy (f:=d) (n:=m) (λj hj=>h.lD j jb)
 have hLB:=jf
 refine⟨hp,by unfold LB at f4;omega,f1,f2,?_,?_,?_,?_,f3,f4⟩
 .rw[g1];generalize LB^m=p at*;grind
 .rw[g1];generalize LB^m=p at*;grind
 .rw[g2];generalize LB^m=p at*;grind
 .rw[g2];generalize LB^m=p at*;grind
def O8:∀(k x:Nat),x<2^k->k<=32->0<x->0<Lib.bitLen x/\Lib.bitLen x<=k/\2^(Lib.bitLen x-1)<=x/\x<2^Lib.bitLen x:=by
 intro k;induction k with
 |zero=>intro x h _ h0;omega
 |succ k ih=>
  intro x h hk h0
  have hx:x<2^64:=aE h (bq jb jb)
  have e:=Lib.bitLen_half x jb hx
  by_cases h1:x=1
  .subst h1
   have e1:Lib.bitLen 1=1:=by decide
   rw[e1];exact⟨jb,jb,jj,jj⟩
  .have h2:x/2<2^k:=by rw[de]at h;omega
   obtain⟨g1,g2,g3,g4⟩:=ih (x/2) h2 jb jb
   generalize Lib.bitLen (x/2)=b at*
   rw[e]
   have p1:2^(1+b-1)=2*2^(b-1):=by rw[show 1+b-1=(b-1)+1 by omega,de,cR]
   have p2:2^(1+b)=2*2^b:=by rw[dC,de,cR]
   rw[p1,p2];omega
def lz(x:Nat):Nat:=32-Lib.bitLen x
def am9{x:Nat}(h0:0<x)(h:x<LB):lz x<32/\LB<=2*(x*2^lz x)/\x*2^lz x<LB:=by
 obtain⟨g1,g2,g3,g4⟩:=O8 32 x h jb h0;unfold lz;generalize Lib.bitLen x=b at*;refine⟨jb,?_,?_⟩
 .have e:LB=2*(2^(b-1)*2^(32-b)):=by rw[<-dT,show b-1+(32-b)=31 by omega];rfl
  rw[e];exact cf _ (bh _ g3)
 .have e:LB=2^b*2^(32-b):=by rw[<-dT,show b+(32-b)=32 by omega];rfl
  rw[e];exact et g4 (dp jb)
def abl(g:Nat->Nat)(n:Nat):ByteArray:=⟨((List.range n).map λj=>UInt8.ofNat (g j)).toArray⟩
def Ky(g:Nat->Nat)(n:Nat):(abl g n).size=n:=by show((List.range n).map λj=>UInt8.ofNat (g j)).toArray.size=n;simp
def ana(g:Nat->Nat)(n:Nat)(hg:∀j,j<n->g j<256):nv (abl g n)=bl (λk=>g (n-1-k)) n:=by rw[<-aa8,Ky];apply OL;intro k hk;unfold NM;rw[Ky];have:(abl g n).data.toList=(List.range n).map λj=>UInt8.ofNat (g j):=rfl;rw[this,cQ,List.getElem?_map,List.getElem?_range jb];have:=hg (n-1-k) jb;simp;omega
end Go.Proofs.Ins
namespace Go.Proofs.Ins
open Go.RowKit
def aw6:Value->Nat|.string s=>s.size|_=>0
def anb(t:ByteArray)(h:0<t.size)(h0:t[0].toNat=0):nv (t.extract 1 t.size)=nv t/\(t.extract 1 t.size).size+1=t.size:=by
 have e:(t.extract 1 t.size).data.toList=t.data.toList.tail:=by rw[Lib.extract_data];simp;rw[eh];rw[List.length_tail];exact jp
 constructor
 .unfold nv;rw[e];have hs:t.data.toList.length=t.size:=rfl;cases hl:t.data.toList with
  |nil=>rw[hl]at hs;simp at hs;omega
  |cons x r=>
   have hx:t[0]=x:=by have:t[0]=t.data.toList[0]'(by rw[hs];exact h):=rfl;rw[this];simp[hl]
   rw[hx]at h0
   rw[List.tail_cons,xH,h0];simp
 .have h2:(t.extract 1 t.size).data.toList.length=t.data.toList.tail.length:=by rw[e]
  have h3:t.data.toList.length=t.size:=rfl;have h4:(t.extract 1 t.size).data.toList.length=(t.extract 1 t.size).size:=rfl;rw[List.length_tail]at h2;omega
def anc{t:ByteArray}(h:0<t.size)(h0:t[0].toNat≠0):bn (nv t)=t:=by
 apply J7;have hs:t.data.toList.length=t.size:=rfl;cases hl:t.data.toList with
 |nil=>simp
 |cons x r=>
  have hx:t[0]=x:=by have:t[0]=t.data.toList[0]'(by rw[hs];exact h):=rfl;rw[this];simp[hl]
  rw[hx]at h0
  simp only[List.head?_cons,ne_eq,aT]
  intro e;apply h0;rw[e];rfl
def IJ{t:ByteArray}(h:t.size=0):bn (nv t)=t:=by apply J7;have hs:t.data.toList.length=t.size:=rfl;have:t.data.toList=[]:=gm.mp jb;rw[this];simp
def IK(s:ByteArray)(w:World)(hs:s.size<=9223372036854775807):
  Calls Tryz.prog 196 #[.string s,.int .u8 0] w λe w'=>e=.returned (.string (bn (nv s)))/\w=w':=by
 go_enter Tryz.func196,Tryz.ntmps196
 go_wp2
 go_loop [0] (λv=>∃t:ByteArray,v=.string t/\t.size<=s.size/\nv t=nv s) (λv=>aw6 v)
 case atStart=>exact⟨s,rfl,jp,rfl⟩
 case round=>
  obtain⟨t,rfl,h1,h2⟩:=hrel;by_cases h0:t.size=0
  .go_wp2;go_ret;exact⟨VK (by rw[<-h2,IJ h0]),rfl⟩
  .have h3:0<t.size:=jb;have HT:=anb t h3;have HB:=anc h3;have HH:=And.intro HT HB;have H:Hid _:=HH;clear HT HB HH;go_wp2
   .have hc:(t[0].toNat:Int)==0:=by assumption
    have hc':t[0].toNat=0:=by simpa using hc
    obtain⟨e1,e2⟩:=H.out.1 hc';go_round
    case rel=>exact⟨_,rfl,jb,e1.trans h2⟩
    case measure=>simp[aw6];omega
   .have hc:((t[0].toNat:Int)==0)=false:=by assumption
    have hc':t[0].toNat≠0:=by simpa using hc
    go_ret;exact⟨VK (by rw[<-h2,H.out.2 hc']),rfl⟩
def Nb{s:ByteArray}(h:s.size=0):s=⟨#[]⟩:=by obtain⟨⟨l⟩⟩:=s;have:l=[]:=gm.mp h;rw[this]
def Tj{s:ByteArray}(h:¬s.size=0):s.toList.isEmpty=false/\¬s.toList=[]:=by
 obtain⟨⟨l⟩⟩:=s;rw[ByteArray.toList_eq];cases l with
 |nil=>exact absurd rfl h
 |cons _ _=>exact⟨rfl,by simp⟩
def Tm(s:ByteArray)(w:World)(hs:s.size<=9223372036854775807):
  Calls Tryz.prog 172 #[.string s,.string ⟨#[0]⟩] w λe w'=>e=.returned (.string (bn (nv s)))/\w=w':=by
 by_cases h0:s.size=0
 .have hx:=IJ h0
  obtain rfl:=Nb h0
  have H:=jx hx
  clear h0 hs hx
  go_enter Tryz.func172,Tryz.ntmps172
  go_wp2
  go_ret
  exact⟨VK H.out.symm,rfl⟩
 .obtain⟨hd1,hd2⟩:=Tj h0
  have hlit:(({data:=#[0]}:ByteArray)[0].toNat:Int)=0:=rfl
  go_enter Tryz.func172,Tryz.ntmps172
  go_wp2_with (go_at_call 196;refine(IK s _ hs).mono ?_;rintro e w' ⟨rfl,rfl⟩)
  go_ways
  go_ret
  exact⟨rfl,rfl⟩
def Ag(s:ByteArray)(w:World)(hs:s.size<=9223372036854775807):
  Calls Tryz.prog 138 #[.string s] w λe w'=>e=.returned (.string (bn (nv s)))/\w=w':=by
 go_enter Tryz.func138,Tryz.ntmps138
 go_wp2_with (go_at_call 172;refine(Tm s _ hs).mono ?_;rintro e w' ⟨rfl,rfl⟩)
 go_ret
 exact⟨rfl,rfl⟩
def Nc:∀(l r:List UInt8),l.length=r.length->Lib.compareBytes l r=rQ (bv l) (bv r):=by
 intro l;induction l with
 |nil=>intro r h;cases r with
  |nil=>rfl
  |cons _ _=>simp at h
 |cons a l ih=>
  intro r h
  cases r with
  |nil=>simp at h
  |cons b r=>
   have hl:l.length=r.length:=by simpa using h
   unfold Lib.compareBytes
   have h1:=Mc l
   have h2:=Mc r
   rw[xH,xH,hl]
   rw[hl]at h1
   by_cases c1:a<b
   .rw[ab c1]
    have:a.toNat<b.toNat:=c1
    have:a.toNat*256^r.length+256^r.length<=b.toNat*256^r.length:=by rw[<-cj];exact bh _ this
    rw[qM jb]
   .rw[ae c1]
    by_cases c2:b<a
    .rw[ab c2]
     have:b.toNat<a.toNat:=c2
     have:b.toNat*256^r.length+256^r.length<=a.toNat*256^r.length:=by rw[<-cj];exact bh _ this
     rw[qN jb]
    .rw[ae c2,ih r hl]
     have e:a.toNat=b.toNat:=by have c1':¬a.toNat<b.toNat:=c1;have c2':¬b.toNat<a.toNat:=c2;omega
     rw[e];unfold rQ
     congr 1
     .simp
     .congr 1;simp
def afD(n:Int):Int:=if n<0 then-1 else if 0<n then 1 else 0
def adG{n:Int}(h:n<0):afD n=-1:=by unfold afD;rw[ab h]
def adH{n:Int}(h:0<n):afD n=1:=by unfold afD;rw[ae jb,ab h]
def aip(n:Int)(w:World):Calls Tryz.prog 139 #[.int .i64 n] w λe w'=>e=.returned (.int .i64 (afD n))/\w=w':=by
 rcases(show n<0\/0<n\/n=0 by omega)with h1|h1|rfl
 .have h2:decide (n<0)=true:=by simpa using h1
  go_enter Tryz.func139,Tryz.ntmps139;go_wp2;go_ret;exact⟨Iw (adG h1).symm,rfl⟩
 .go_enter Tryz.func139,Tryz.ntmps139;go_wp2;go_ret;exact⟨Iw (adH h1).symm,rfl⟩
 .go_enter Tryz.func139,Tryz.ntmps139;go_wp2;go_ret;exact⟨rfl,rfl⟩
def aiq(a b:ByteArray)(w:World):Sem.run Tryz.prog (callFunc 200 #[Value.string a,Value.string b]) w=Sem.run Tryz.prog (do let v<-(Extern.BytealgCompare.compare #[.string a,.string b]);pure (Next.value v)) w:=by kernel_rfl
def ane(a b:ByteArray)(w:World):Sem.run Tryz.prog (callFunc 200 #[Value.string a,Value.string b]) w=.ok (Next.value (.int .i64 (Lib.compareBytes a.data.toList b.data.toList))) w:=by rw[aiq,Sem.run_bind,Lib.run_compareString];rfl
def abm(a b:ByteArray)(w:World):Calls Tryz.prog 173 #[.string a,.string b] w λe w'=>e=.returned (.int .i64 (Lib.compareBytes a.data.toList b.data.toList))/\w=w':=by have hx:=λw=>ane a b w;go_enter Tryz.func173,Tryz.ntmps173;go_wp2;go_ret;exact⟨rfl,rfl⟩
def abn(a b:ByteArray)(w:World):Calls Tryz.prog 140 #[.string a,.string b] w λe w'=>e=.returned (.int .i64 (Lib.compareBytes a.data.toList b.data.toList))/\w=w':=by
 go_enter Tryz.func140,Tryz.ntmps140;go_wp2_with (go_at_call 173;refine(abm _ _ _).mono ?_;rintro e w' ⟨rfl,rfl⟩)
 go_ret;exact⟨rfl,rfl⟩
def VT(a b:ByteArray)(w:World)(ha:a.size<=1073741824)(hb:b.size<=1073741824):
  Calls Tryz.prog 98 #[.string a,.string b] w λe w'=>e=.returned (.int .i64 (rQ (nv a) (nv b)))/\w=w':=by
 have ha2:=oO a
 have hb2:=oO b
 obtain⟨x,hx⟩:∃x,x=bn (nv a):=⟨_,rfl⟩
 obtain⟨y,hy⟩:∃y,y=bn (nv b):=⟨_,rfl⟩
 have n1:Calls Tryz.prog 138 #[.string a] w λe w'=>e=.returned (.string x)/\w=w':=by rw[hx];exact Ag a w jb
 have n2:Calls Tryz.prog 138 #[.string b] w λe w'=>e=.returned (.string y)/\w=w':=by rw[hy];exact Ag b w jb
 rw[<-hx]at ha2
 rw[<-hy]at hb2
 have Hx:=jx hx
 have Hy:=jx hy
 have N1:=jx n1
 have N2:=jx n2
 clear hx hy n1 n2
 by_cases hlen:x.size=y.size
 .have hcmp:Lib.compareBytes x.data.toList y.data.toList=rQ (nv a) (nv b):=by
   rw[Nc _ _ hlen];have e1:bv x.data.toList=nv a:=by rw[Hx.out];exact gU _
   have e2:bv y.data.toList=nv b:=by rw[Hy.out];exact gU _
   rw[e1,e2]
  have HC:=jx hcmp
  have HL:((x.size:Int)==(y.size:Int))=true:=by simp;omega
  have HL2:((x.size:Int) !=(y.size:Int))=false:=by simp;omega
  clear hcmp hlen
  go_enter Tryz.func98,Tryz.ntmps98
  go_wp2_with fail
  refine N1.out.mono ?_;rintro e w' ⟨rfl,rfl⟩
  go_wp2_with fail
  refine N2.out.mono ?_;rintro e w' ⟨rfl,rfl⟩
  go_wp2_with fail
  refine(abn _ _ _).mono ?_;rintro e w' ⟨rfl,rfl⟩
  go_wp2
  go_ret
  exact⟨Iw HC.out,rfl⟩
 .have HL2:((x.size:Int) !=(y.size:Int))=true:=by simp;omega
  have hcmp:afD ((x.size:Int)-y.size)=rQ (nv a) (nv b):=by
   rcases(show x.size<y.size\/y.size<x.size by omega)with h|h
   .rw[adG jb];rw[Hx.out,Hy.out]at h;rw[qM (Um h)]
   .rw[adH jb];rw[Hx.out,Hy.out]at h;rw[qN (Um h)]
  have HC:=jx hcmp
  clear hcmp hlen
  go_enter Tryz.func98,Tryz.ntmps98
  go_wp2_with fail
  refine N1.out.mono ?_;rintro e w' ⟨rfl,rfl⟩
  go_wp2_with fail
  refine N2.out.mono ?_;rintro e w' ⟨rfl,rfl⟩
  go_wp2_with fail
  refine(aip _ _).mono ?_;rintro e w' ⟨rfl,rfl⟩
  go_wp2
  go_ret
  exact⟨Iw HC.out,rfl⟩
end Go.Proofs.Ins
namespace Go.Proofs.Ins
theorem nT(q:Rat):(sg q=-1/\q<0)\/(sg q=0/\q=0)\/(sg q=1/\0<q):=by
 unfold sg;by_cases h:q=0
 .rw[ab h];exact .inr (.inl ⟨rfl,h⟩)
 .rw[ae h];by_cases h2:q<0
  .rw[ab h2];exact .inl ⟨rfl,h2⟩
  .rw[ae h2];exact .inr (.inr ⟨rfl,by grind⟩)
def abo{p q:Rat}(h:sg p<sg q):mW p q=-1:=by apply IB;rcases nT p with⟨e1,h1⟩|⟨e1,h1⟩|⟨e1,h1⟩<;>rcases nT q with⟨e2,h2⟩|⟨e2,h2⟩|⟨e2,h2⟩<;>first|omega|grind
def abp{p q:Rat}(h:sg q<sg p):mW p q=1:=by apply IC;rcases nT p with⟨e1,h1⟩|⟨e1,h1⟩|⟨e1,h1⟩<;>rcases nT q with⟨e2,h2⟩|⟨e2,h2⟩|⟨e2,h2⟩<;>first|omega|grind
def air{p q:Rat}(h:sg p=sg q):rn p=rn q:=by
 rcases nT p with⟨e1,h1⟩|⟨e1,h1⟩|⟨e1,h1⟩<;>rcases nT q with⟨e2,h2⟩|⟨e2,h2⟩|⟨e2,h2⟩<;>first
  |omega
  |rw[VP.mpr h1,VP.mpr h2]
  |rw[OU.mpr kd,OU.mpr kd]
def afE{p q:Rat}(h:sg p=sg q):mW p q=if rn p=true then-(rQ (nm p*q.den) (nm q*p.den))else rQ (nm p*q.den) (nm q*p.den):=by
 have hn:=air h;have e1:=OT p;have e2:=OT q;have h1:=Rat.lt_iff p q;have h2:=Rat.lt_iff q p;rw[<-e1,<-e2,<-hn]at h1 h2;obtain⟨X,hX⟩:∃X,X=nm p*q.den:=⟨_,rfl⟩
 obtain⟨Y,hY⟩:∃Y,Y=nm q*p.den:=⟨_,rfl⟩
 have c1:(nm p:Int)*q.den=(X:Int):=by rw[hX,Int.natCast_mul]
 have c2:(nm q:Int)*p.den=(Y:Int):=by rw[hY,Int.natCast_mul]
 rw[<-hX,<-hY];have heq:X=Y->p=q:=λe=>by
  rw[Rat.eq_iff_mul_eq_mul,<-e1,<-e2,<-hn];unfold xJ;split
  .rw[Int.neg_mul,Int.neg_mul,c1,c2,e]
  .rw[c1,c2,e]
 cases hr:rn p
 .rw[hr]at h1 h2;simp only[xJ,da,if_false]at h1 h2⊢;rw[c1,c2]at h1 h2;rcases Nat.lt_trichotomy X Y with h3|h3|h3
  .rw[qM h3,IB (h1.mpr jb)]
  .rw[heq h3,NP,h3,zK]
  .rw[qN h3,IC (h2.mpr jb)]
 .rw[hr]at h1 h2;simp only[xJ,gT,Int.neg_mul]at h1 h2⊢;rw[c1,c2]at h1 h2;rcases Nat.lt_trichotomy X Y with h3|h3|h3
  .rw[qM h3,IC (h2.mpr jb)];rfl
  .rw[heq h3,NP,h3,zK];rfl
  .rw[qN h3,IB (h1.mpr jb)]
end Go.Proofs.Ins
namespace Go.Proofs.Ins
open Go.RowKit
structure R3 where
 n:Bool
 s:ByteArray
 d:ByteArray
instance:Inhabited R3:=⟨⟨false,⟨#[]⟩,⟨#[]⟩⟩⟩
def R3.c(r:R3):List Value:=[.bool r.n,.string r.s,.string r.d]
def R3.q(r:R3):Rat:=rq r.n r.s r.d
def R3.small(r:R3):Prop:=r.s.size<=24/\r.d.size<=24
instance (r:R3):Decidable r.small:=by unfold R3.small;infer_instance
def R3.fits(r:R3)(k:Nat):Prop:=r.s.size<=k/\r.d.size<=k
def mV(q:Rat):R3:=⟨rn q,rs q,rd q⟩
theorem nU(q:Rat):(mV q).q=q:=DN q
def vU{q:Rat}{k:Nat}(h:Sm k q):(mV q).fits k:=⟨h.rs,h.rd⟩
structure V8 where
 p:Int
 a:R3
 k:R3
 x:Bool
instance:Inhabited V8:=⟨⟨0,default,default,false⟩⟩
def V8.c(v:V8):List Value:=[.int .i64 v.p,.bool v.a.n,.string v.a.s,.string v.a.d,.bool v.k.n,.string v.k.s,.string v.k.d,.bool v.x]
def aAQ(w:World)(T:TypeId)(n sz:Nat)(F:Nat->List Value)(e:Ending)(w':World):Prop:=
 ∃v,e=.returned v/\mZ w' w.heap.size T sz v n F/\Below w.heap.size w w'
def c16(L:Nat->Nat)(i:Nat):List Value:=[.int .u16 (L i:Int)]
def anf:(Tryz.prog.info? 3).map (λi=>(i.zero.map (λz=>z.cells.size),i.size,i.bytes))=some (some 1,1,8):=by kernel_rfl
end Go.Proofs.Ins
namespace Go.Proofs.Ins
open Go Go.RowKit Go.ChangeShapes Go.WideShapes Go.Deep
section
variable {H:Type} {enc:TypeId×Value→H} {P:Program} {W:World} {sp:Nat→Bool} {held:Bool}
def Light(P:Program)(t:TypeId)(d:DataW H):Prop:=∀n∈d.weights P t,n<=140737488351232
def AY{ts:List TypeId}{ds:List (DataW H)}(h:(DataW.weightsEach P ts ds).all (·<=reachBytes)=true){j:Nat}{t:TypeId}{d:DataW H}(ht:ts[j]?=some t)(hd:ds[j]?=some d):Light P t d:=λn hn=>by have:=eA.1 h _ (DataW.weights_mem_each ht hd n hn);exact cK this
def CS{e:TypeId}:∀{l:List (DataW H)}{d:DataW H},d∈l->∀n∈d.weights P e,n∈DataW.weightsAll P e l
 |d'::r,d,hd,n,hn=>by
  simp only[DataW.weightsAll,bY];rcases bw.1 hd with rfl|h
  .exact Or.inl hn
  .exact Or.inr (CS h n hn)
def abq{t e:TypeId}{l sp:List (DataW H)}{d:DataW H}(ht:P.underlying t=some (.slice e))(h:Light P t (.slice l sp))(hd:d∈l):Light P e d:=λn hn=>h n (by simp only[DataW.weights,ht,bw,bY];exact .inr (.inl (CS hd n hn)))
def afF{t e:TypeId}{l sp:List (DataW H)}(ht:P.underlying t=some (.slice e))(h:Light P t (.slice l sp))(he:0<P.bytesOf e):l.length<=140737488351232:=by have:=h ((l.length+sp.length)*P.bytesOf e) (by simp[DataW.weights,ht]);have h2:=fo (l.length+sp.length) he;omega
def Kz{t e:TypeId}{fuel k:Nat}{cs:List Value}{x:DataW H×List MemPlace}(ht:P.underlying t=some (.slice e))(hk:P.cellsOf e=k)(hk0:0<k)(he:0<P.bytesOf e)(h:DataW.trod enc P W 0 sp held fuel t cs=some x)(hL:Light P t x.1):
  ∃(a:Option Addr) (len cap:Nat) (C:Nat->List Value),cs=[.slice a len cap]/\len<=140737488351232/\afC W a len k C/\∀i,i<len->(C i).length=k/\∃n y,DataW.trod enc P W 0 sp held n e (C i)=some y/\Light P e y.1:=by
 rcases open_slice ht h with⟨rfl,-⟩|⟨a,len,cap,m,n,D,Pl,rfl,-,hl,hm,hmm,rfl,hx⟩
 .exact⟨none,0,0,λ_=>[],rfl,jb,.inl rfl,λi hi=>jb⟩
 .have hlm:len<=m:=by rw[hmm];split<;>omega
  obtain⟨C,hC⟩:=choose_lt (α:=List Value) (p:=λi c=>W.cells? 0 (a.add (i*P.cellsOf e)) (P.cellsOf e)=some c/\DataW.trod enc P W 0 sp held n e c=some (D i,Pl i)) (λi hi=>hx i hi)
  have hlen:=afF ht hL he
  rw[cn,gP]at hlen
  refine⟨some a,len,cap,C,rfl,hlen,?_,λi hi=>⟨?_,n,_,(hC i jb).2,abq ht hL (cT.2 ⟨i,by simpa using hi,rfl⟩)⟩⟩
  .rcases cY len with h0|h0
   .exact .inl h0
   .obtain⟨b,off,spot⟩:=a
    obtain⟨_,hlen,hget⟩:=World.cells?_some (hC 0 jb).1
    have h00:=hget 0 jb
    rw[gh jb]at h00
    have hspot:spot=none:=by simpa [Addr.add]using World.cell?_spot h00
    subst hspot
    have hadd:∀i j,((⟨b,off,none⟩:Addr).add (i*k)).add j=⟨b,off+i*k+j,none⟩:=λi j=>by unfold Addr.add;by_cases h1:i*k=0<;>by_cases h2:j=0<;>simp[h1,h2]
    refine .inr ⟨b,off,rfl,?_,λi j hi hj=>?_⟩
    .have:=block_lt_of_cell h00
     simpa [Addr.add]using this
    .obtain⟨_,_,hg⟩:=World.cells?_some (hC i jb).1
     have:=hg j jb
     rw[hk,hadd]at this
     exact this
  .obtain⟨_,hlen,_⟩:=World.cells?_some (hC i jb).1
   rw[hlen,hk]
end
section
variable {H:Type} {enc:TypeId×Value→H} {W:World} {sp:Nat→Bool} {held:Bool}
def rH{fuel:Nat}{cs:List Value}{x:DataW H×List MemPlace}(h:DataW.trod enc Tryz.prog W 0 sp held fuel 25 cs=some x):∃m:Nat,cs=[.int .u16 (m:Int)]/\m<=65535:=by
 obtain⟨n,rfl,-,hw⟩:=DataW.trod_int Tryz.underlying25 h;have hw2:0<=n/\n<=65535:=by simpa [Lit.wf,IntKind.min,IntKind.max,IntKind.signed,IntKind.bits]using hw
 exact⟨n.toNat,by rw[fe hw2.1],jb⟩
end
def afC.congr{w:World}{a:Option Addr}{n sz:Nat}{F G:Nat->List Value}(h:afC w a n sz F)(hg:∀i,i<n->F i=G i):afC w a n sz G:=by
 rcases h with h|⟨b,off,ha,hl,hr⟩
 .exact .inl h
 .exact .inr ⟨b,off,ha,hl,λi j hi hj=>by rw[<-hg i hi];exact hr i j hi hj⟩
section
variable {H:Type} {enc:TypeId×Value→H} {W:World} {sp:Nat→Bool} {held:Bool}
def ais{fuel:Nat}{cs:List Value}{x:DataW H×List MemPlace}(h:DataW.trod enc Tryz.prog W 0 sp held fuel 22 cs=some x)(hL:Light Tryz.prog 22 x.1):
  ∃a n cap,∃M:Nat->Nat,cs=[.slice a n cap]/\n<=140737488351232/\afC W a n 1 (c16 M)/\∀i,i<n->M i<=65535:=by
 obtain⟨a,n,cap,C,rfl,hn,hs,hx⟩:=Kz (k:=1) Tryz.underlying22 (by kernel_rfl) jb (cK (by kernel_rfl)) h hL
 obtain⟨M,hM⟩:=choose_lt (α:=Nat) (p:=λi m=>C i=[.int .u16 (m:Int)]/\m<=65535) (λi hi=>by obtain⟨_,n,y,h1,h2⟩:=hx i hi;exact rH h1)
 exact⟨a,n,cap,M,rfl,hn,hs.congr λi hi=>(hM i hi).1,λi hi=>(hM i hi).2⟩
def Gt{P:Program}(hl:laidOutB P=true){W W':World}(hb:Below W.heap.size W W'):∀{ts:List TypeId}{vs:List Value}{ds:List (DataW H)}{p:List MemPlace},
  (ts.all λt=>P.readableRec t&&decide (t<P.types.size))=true->DataW.TrodAll enc P W 0 (λ_=>true) true ts vs ds p->(∀x∈p,x.block<W.heap.size)->DataW.TrodAll enc P W' 0 (λb=>decide (b<W.heap.size)) true ts vs ds p
 |[],_,_,_,_,h,_=>by obtain⟨rfl,rfl,rfl⟩:=trodAll_nil h;exact h
 |t::ts,_,_,_,ht,h,hp=>by obtain⟨v,vs1,d,ds1,a,b,rfl,rfl,rfl,h1,h2⟩:=trodAll_cons h;simp only[cy,ap,eZ]at ht;exact⟨a,b,Below.trod hl ht.1.1 ht.1.2 h1 hb (λx hx=>hp x (ic _ hx)),Gt hl hb ht.2 h2 (λx hx=>hp x (List.mem_append_right _ hx)),rfl⟩
end
def laidOut':laidOutB Tryz.prog=true:=by kernel_rfl
end Go.Proofs.Ins
