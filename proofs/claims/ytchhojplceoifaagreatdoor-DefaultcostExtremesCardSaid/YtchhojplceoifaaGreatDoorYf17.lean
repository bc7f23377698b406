import Derived.Shelf.Small.Bits
import Derived.Test.YtchhojplceoifaaGreatDoorYf16
set_option linter.all false
set_option maxRecDepth 100000
set_option maxHeartbeats 8000000
namespace Go.Proofs.Ins
def hv(f:Nat->Nat)(m n:Nat):Nat:=lv (λj=>f (m+j)) (n-m)
theorem ai3(f:Nat->Nat)(n:Nat):hv f n n=0:=by unfold hv;rw[Nat.sub_self];rfl
theorem ac9(f:Nat->Nat)(n:Nat):hv f 0 n=lv f n:=by unfold hv;simp
theorem Vs(f:Nat->Nat){m n:Nat}(h:m<n):hv f m n=f m+LB*hv f (m+1) n:=by
 unfold hv;obtain⟨d,hd⟩:∃d,n-m=d+1:=⟨n-m-1,jb⟩
 grind[Xg]
theorem Yl{f g:Nat->Nat}{m n:Nat}(h:∀j,m<=j->j<n->f j=g j):hv f m n=hv g m n:=
 rM λj hj=>h _ jb jb
def OZ(f O:Nat->Nat)(n m d r:Nat):Prop:=hv f m n=d*hv O m n+r/\r<d/\(∀j,m<=j->j<n->O j<LB)
def afz(f O:Nat->Nat)(n d:Nat)(hd:0<d):OZ f O n n d 0:=⟨by grind[ai3],hd,λj h1 h2=>jb⟩
def ai4{f O:Nat->Nat}{n m d r:Nat}(h:OZ f O n (m+1) d r)(hm:m<n)(hf:f m<LB):
  OZ f (upd O m ((r*LB+f m)/d)) n m d ((r*LB+f m)%d):=by
 obtain⟨h1,h2,h3⟩:=h
 have hd:0<d:=jb
 have hq:(r*LB+f m)/d<LB:=by
  apply dT;have:r*LB+LB<=d*LB:=by rw[<-cj];exact bp _ h2
  omega
 refine⟨?_,di _ hd,?_⟩
 .rw[Vs f hm,Vs _ hm,upd_same,Yl (g:=O) (λj h4 h5=>dh _ _ _ jb),h1]
  have hx:=du (r*LB+f m) d
  generalize (r*LB+f m)/d=q at*
  generalize (r*LB+f m)%d=s at*
  generalize hv O (m+1) n=Q at*
  rw[Nat.mul_add,Nat.mul_add]
  have e:LB*(d*Q)=d*(LB*Q):=by rw[<-fT,<-fT,dE LB d]
  have e2:LB*r=r*LB:=dE _ _
  omega
 .intro j h4 h5
  by_cases e:j=m
  .subst e;rw[upd_same];exact hq
  .rw[dh _ _ _ e];exact h3 j jb h5
def anM{f O:Nat->Nat}{n d r:Nat}(h:OZ f O n 0 d r):lv O n=lv f n/d/\r=lv f n%d/\∀j,j<n->O j<LB:=by obtain⟨h1,h2,h3⟩:=h;grind[Go.Proofs.Ins.ac9,Nat.mul_add_div,Nat.div_eq_of_lt,Nat.mul_add_mod,Nat.mod_eq_of_lt]
theorem DY{s:Nat}(hs:s<=32):LB=2^(32-s)*2^s:=by rw[<-eg,Nat.sub_add_cancel hs];rfl
def O1(f O:Nat->Nat)(N i s:Nat):Prop:=lv O (i+1)=lv f i*2^s/\(∀j,j<N->O j<LB)/\O i<2^s/\(∀j,i<j->O j=0)
def afA(f:Nat->Nat)(N s:Nat):O1 f (λ_=>0) N 0 s:=
 ⟨by simp[lv],λ_ _=>lT,dq jb,λ_ _=>rfl⟩
theorem Vt{u s:Nat}(hs:s<32):(u*2^s)%LB=(u%2^(32-s))*2^s:=by grind[DY,Nat.mul_mod_mul_right]
theorem O4{c u s:Nat}(hs:s<32)(hc:c<2^s):c+(u%2^(32-s))*2^s<LB:=by
 have h1:u%2^(32-s)<2^(32-s):=di _ (dq jb);have h2:(u%2^(32-s))*2^s+2^s<=2^(32-s)*2^s:=by rw[<-cj];exact bp _ h1
 grind[DY]
def Ym{u s:Nat}(hs:s<32)(hu:u<LB):(u*2^s)/LB<2^s:=by apply dT;simp_all[dq]
def ai5{f O:Nat->Nat}{N i s:Nat}(h:O1 f O N i s)(hs:s<32)(hf:f i<LB)(hi:i+1<N):
  O1 f (upd (upd O i (O i+(f i%2^(32-s))*2^s)) (i+1) ((f i*2^s)/LB)) N (i+1) s:=by
 obtain⟨h1,h2,h3,h4⟩:=h
 have hh:=Ym hs hf
 refine⟨?_,?_,?_,?_⟩
 .rw[gI,upd_same,xM _ jp,gI,upd_same,xM _ jp]
  rw[gI]at h1
  rw[<-Vt hs,gI,dC]
  grind[Nat.div_add_mod]
 .intro j hj
  by_cases e:j=i+1
  .grind[upd_same,Nat.lt_of_lt_of_le,DY,Nat.le_mul_of_pos_left]
  .rw[dh _ _ _ e]
   by_cases e2:j=i
   .simp_all[upd_same,O4]
   grind[dh]
 .grind[upd_same]
 grind[dh]
def ai6{f O:Nat->Nat}{i s:Nat}(h:O1 f O (i+1) i s)(hs:s<32)(hf:f i*2^s<LB):
  lv (upd O i (O i+(f i%2^(32-s))*2^s)) (i+1)=lv f (i+1)*2^s/\∀j,j<i+1->upd O i (O i+(f i%2^(32-s))*2^s) j<LB:=by
 obtain⟨h1,h2,h3,h4⟩:=h
 grind[gI,upd_same,xM,Vt,Nat.mod_eq_of_lt,O4,dh]
def Rk(f:Nat->Nat)(s i:Nat):Nat:=(f i+LB*f (i+1))/2^s%LB
theorem anN{f:Nat->Nat}{s i:Nat}(hs:s<32)(hf:f i<LB):2^s*Rk f s i+f i%2^s=f i+LB*(f (i+1)%2^s):=by
 have hp:0<2^s:=dq jb;have hL:=DY (il hs);have h1:(f i+LB*f (i+1))/2^s=f i/2^s+2^(32-s)*f (i+1):=by grind[Nat.mul_comm,Nat.mul_assoc,Nat.add_mul_div_left]
 have h2:f i/2^s<2^(32-s):=by simp_all[dT,dE]
 have h3:Rk f s i=f i/2^s+2^(32-s)*(f (i+1)%2^s):=by
  unfold Rk;rw[h1];have e1:=du (f (i+1)) (2^s);have e2:f i/2^s+2^(32-s)*f (i+1)=LB*(f (i+1)/2^s)+(f i/2^s+2^(32-s)*(f (i+1)%2^s)):=by grind
  rw[e2,Nat.mul_add_mod];apply eL;have e3:f (i+1)%2^s<2^s:=di _ hp;have e4:2^(32-s)*(f (i+1)%2^s)+2^(32-s)<=2^(32-s)*2^s:=by rw[<-Nat.mul_succ];exact cw _ e3
  omega
 grind[Nat.div_add_mod]
def as2{f:Nat->Nat}{s n:Nat}(hs:s<32)(hf:∀j,j<n->f j<LB):2^s*lv (Rk f s) n+f 0%2^s=lv f n+LB^n*(f n%2^s):=by
 induction n with
 |zero=>simp[lv]
 |succ k ih=>
  grind[anN,gI]
def anO{f:Nat->Nat}{s n x:Nat}(hs:s<32)(hf:∀j,j<n->f j<LB)(h0:f n=0)(hx:lv f n=x*2^s):lv (Rk f s) n=x:=by have hp:0<2^s:=dq jb;have h:=as2 hs hf;rw[h0,Nat.zero_mod,Nat.mul_zero,cB,hx]at h;have h1:f 0%2^s<2^s:=di _ hp;grind[Nat.mul_add_div,Nat.div_eq_of_lt,Nat.mul_div_cancel]
structure Tq(U V top u2 d1 d2 p g r:Nat):Prop where
 sum:g*d1+r=top
 ge:U/V<=g
 le:top<=d1*LB+(LB-1)
structure JX(U V top u2 d1 d2 p:Nat):Prop where
 ai7:0<p
 d_pos:0<d1
 awS:u2<LB
 aqi:d2<LB
 awT:top*LB*p+u2*p<=U
 aqj:U<top*LB*p+u2*p+p
 as3:d1*LB*p+d2*p<=V
 aqk:V<d1*LB*p+d2*p+p
 fits:U<V*LB
 norm:LB<=2*d1
def JX.ai8{U V top u2 d1 d2 p:Nat}(h:JX U V top u2 d1 d2 p):0<V:=by have:=h.fits;grind
def JX.top_le{U V top u2 d1 d2 p:Nat}(h:JX U V top u2 d1 d2 p):top<=d1*LB+(LB-1):=by
 have h1:=h.awT;have h2:=h.fits;have h3:=h.aqk;have h4:=h.aqi;have hp:=h.ai7;have h5:V*LB<=((d1+1)*LB)*p*LB:=by
  apply bp;have e1:d2*p+p<=LB*p:=by rw[<-cj];exact bp _ h4
  have e2:(d1+1)*LB*p=d1*LB*p+LB*p:=by rw[ib,Nat.one_mul,ib]
  omega
 have h6:top*LB*p<(d1+1)*LB*p*LB:=jb;have h7:top*(LB*p)<((d1+1)*LB)*(LB*p):=by
  have e1:top*(LB*p)=top*LB*p:=(fT _ _ _).symm;have e2:((d1+1)*LB)*(LB*p)=(d1+1)*LB*p*LB:=by rw[dE LB p,<-fT]
  omega
 have h8:=gh h7;have e:(d1+1)*LB=d1*LB+LB:=by rw[ib,Nat.one_mul]
 have:=lT;omega
def JX.start{U V top u2 d1 d2 p:Nat}(h:JX U V top u2 d1 d2 p):Tq U V top u2 d1 d2 p (top/d1) (top%d1):=by
 refine⟨by grind[Nat.div_add_mod],?_,h.top_le⟩;rw[Nat.le_div_iff_mul_le h.d_pos];have h1:U/V*V<=U:=Nat.div_mul_le_self _ _;generalize U/V=q at*;have h2:q*(d1*LB*p)<=q*V:=cw _ (by have:=h.as3;omega);have h3:=h.aqj;have h4:=h.awS;have hp:=h.ai7;have e1:u2*p+p<=LB*p:=by rw[<-cj];exact bp _ h4
 have e2:q*(d1*LB*p)=q*d1*(LB*p):=by grind
 have e3:(top+1)*(LB*p)=top*LB*p+LB*p:=by grind
 have h5:q*d1*(LB*p)<(top+1)*(LB*p):=jb;have:=gh h5;omega
def JX.lower{U V top u2 d1 d2 p g r:Nat}(h:JX U V top u2 d1 d2 p)(hg:Tq U V top u2 d1 d2 p g r)(hc:LB<=g\/r*LB+u2<g*d2):
  0<g/\Tq U V top u2 d1 d2 p (g-1) (r+d1):=by
 have hV:=h.ai8
 have hq:U/V<g:=by
  rcases hc with hc|hc
  .have:U/V<LB:=dT h.fits;omega
  .rcases fM (U/V) g with hx|hx
   .exact hx
   .exfalso;have h1:U/V*V<=U:=Nat.div_mul_le_self _ _;have h2:g*V<=U:=ap (bp _ hx) h1;have h3:g*(d1*LB*p+d2*p)<=g*V:=cw _ h.as3;have h4:=h.aqj;have h5:=hg.sum;have e1:g*(d1*LB*p+d2*p)=(g*d1*LB+g*d2)*p:=by grind
    have e2:top*LB*p+u2*p+p=(top*LB+u2+1)*p:=by grind
    have h6:(g*d1*LB+g*d2)*p<(top*LB+u2+1)*p:=jb;have h7:=gh h6;have e3:top*LB=g*d1*LB+r*LB:=by grind
    omega
 have hpos:0<g:=cV (br _) hq
 refine⟨hpos,?_,Nat.le_sub_one_of_lt hq,hg.le⟩
 have h5:=hg.sum
 have:g*d1=(g-1)*d1+d1:=by
  obtain⟨k,rfl⟩:∃k,g=k+1:=⟨g-1,jb⟩
  grind
 omega
def JX.done{U V top u2 d1 d2 p g r:Nat}(h:JX U V top u2 d1 d2 p)(hg:Tq U V top u2 d1 d2 p g r)(hc:(g<LB/\g*d2<=r*LB+u2)\/LB<=r):
  g<LB/\g<=U/V+1:=by
 have hV:=h.ai8
 have hs:=hg.sum
 have hgl:g<LB:=by
  rcases hc with hc|hc
  .exact hc.1
  .have h1:=hg.le;have h2:g*d1<LB*d1:=by grind[lT]
   exact gh h2
 have hle:g*d2<=r*LB+u2:=by
  rcases hc with hc|hc
  .exact hc.2
  .have h1:g*d2<=LB*LB:=cH (il hgl) (il h.aqi);grind[LB]
 refine⟨hgl,?_⟩
 have hp:=h.ai7
 have h1:g*(d1*LB*p+d2*p)<=U:=by
  have e1:g*(d1*LB*p+d2*p)=(g*d1*LB+g*d2)*p:=by grind
  have e3:top*LB=g*d1*LB+r*LB:=by grind
  have e4:(g*d1*LB+g*d2)*p<=(top*LB+u2)*p:=bp _ jb;have e5:(top*LB+u2)*p=top*LB*p+u2*p:=by grind
  have:=h.awT;omega
 have h2:g*V<=g*(d1*LB*p+d2*p)+g*p:=by rw[<-Nat.mul_add];exact cw _ (by have:=h.aqk;omega)
 have h3:g*p<LB*p:=eI hgl hp
 have h4:LB*p<=V:=by have:=h.as3;have e:1*(LB*p)<=d1*(LB*p):=bp _ h.d_pos;grind
 have h5:g*V<U+V:=jb
 rcases eE g with e|e
 .grind
 .have h6:(g-1)*V+V=g*V:=by
   obtain⟨k,rfl⟩:∃k,g=k+1:=⟨g-1,jb⟩
   grind
  have h7:(g-1)*V<=U:=jb
  have:=(Nat.le_div_iff_mul_le hV).mpr h7
  omega
def JX.small{U V top u2 d1 d2 p g r:Nat}(h:JX U V top u2 d1 d2 p)(hg:Tq U V top u2 d1 d2 p g r):g<=LB+1:=by
 have h1:=hg.sum;have h2:=hg.le;have h3:=h.norm;rcases fM g (LB+2)with c|c
 .omega
 .have h4:(LB+2)*d1<=g*d1:=bp _ c;grind[lT]
def wv(G:Nat->Nat)(off k:Nat):Nat:=lv (λj=>G (off+j)) k
theorem vC(G:Nat->Nat)(off k:Nat):wv G off (k+1)=wv G off k+LB^k*G (off+k):=rfl
def as4(G:Nat->Nat)(off k v:Nat):wv (upd G (off+k) v) off k=wv G off k:=
 rM λj hj=>dh _ _ _ jb
theorem zH(G:Nat->Nat)(off k v:Nat):wv (upd G (off+k) v) off (k+1)=wv G off k+LB^k*v:=by rw[vC,as4,upd_same]
def ai9{G:Nat->Nat}{off k N:Nat}(h:∀j,j<N->G j<LB)(hk:off+k<=N):wv G off k<LB^k:=
 KL λj hj=>h _ jb
structure O5(N off g k C B:Nat)(d G G':Nat->Nat):Prop where
 sum:wv G' off k+g*lv d k=wv G off k+LB^k*(C+B)
 old:∀j,(j<off\/off+k<=j)->G' j=G j
 lt:∀j,j<N->G' j<LB
 awU:C<LB
 azl:B<=1
def abe{N off g:Nat}{d G:Nat->Nat}(h:∀j,j<N->G j<LB):O5 N off g 0 0 0 d G G:=
 ⟨by rfl,λ_ _=>rfl,h,lT,jb⟩
def IW{x y b:Nat}(hx:x<LB)(hy:y<LB)(hb:b<=1):
  ((x:Int)-y-b)%4294967296=(((x+LB*(if x<y+b then 1 else 0))-y-b:Nat):Int)/\(x+LB*(if x<y+b then 1 else 0))-y-b<LB/\
   (x+LB*(if x<y+b then 1 else 0))-y-b+y+b=x+LB*(if x<y+b then 1 else 0):=by
 grind[LB]
def afB{N off g k C B dk x:Nat}{d G G':Nat->Nat}(h:O5 N off g k C B d G G')(hg:g<LB)(hd:d k<LB)(hk:off+k<N)
  (hx:G' (off+k)=x) (hdk:dk+(g*d k+C)%LB+B=x+LB*(if x<(g*d k+C)%LB+B then 1 else 0)) (hlt:dk<LB):
  O5 N off g (k+1) ((g*d k+C)/LB) (if x<(g*d k+C)%LB+B then 1 else 0) d G (upd G' (off+k) dk):=by
 have hx2:G (off+k)=x:=by rw[<-hx];exact(h.old _ (.inr jp)).symm
 refine⟨?_,?_,?_,?_,by grind⟩
 .have hs:=h.sum
  grind[zH,vC,gI,Nat.div_add_mod,LB]
 .intro j hj
  rw[dh _ _ _ jb];exact h.old j jb
 .intro j hj
  by_cases e:j=off+k
  .grind[upd_same]
  .rw[dh _ _ _ e];exact h.lt j hj
 .apply dT
  have h1:g*d k<=(LB-1)*(LB-1):=cH jb jb
  have h2:=h.awU
  grind[LB]
def Tv{N off g n C B dk x:Nat}{d G G':Nat->Nat}(h:O5 N off g n C B d G G')(hk:off+n<N)
  (hx:G' (off+n)=x) (hdk:dk+C+B=x+LB*(if x<C+B then 1 else 0)) (hlt:dk<LB):
  wv (upd G' (off+n) dk) off (n+1)+g*lv d n=wv G off (n+1)+LB^(n+1)*(if x<C+B then 1 else 0)/\
   (∀j,(j<off\/off+n+1<=j)->upd G' (off+n) dk j=G j)/\∀j,j<N->upd G' (off+n) dk j<LB:=by
 have hx2:G (off+n)=x:=by rw[<-hx];exact(h.old _ (.inr jp)).symm
 refine⟨?_,?_,?_⟩
 .have hs:=h.sum
  grind[zH,vC]
 .intro j hj
  rw[dh _ _ _ jb];exact h.old j jb
 .intro j hj
  by_cases e:j=off+n
  .grind[upd_same]
  .rw[dh _ _ _ e];exact h.lt j hj
def abf{U V g W:Nat}(hg1:g<=U/V+1)(hg2:U/V<=g)(hV:0<V)(h:W+g*V=U):g=U/V/\W=U%V:=by grind[Nat.le_div_iff_mul_le,Nat.le_antisymm,Nat.div_add_mod]
def abg{U V g W P:Nat}(hg1:g<=U/V+1)(hV:0<V)(h:W+g*V=U+P)(hW:W<P):g=U/V+1/\W+V=P+U%V:=by grind[Nat.div_lt_iff_lt_mul,Nat.le_antisymm,Nat.div_add_mod]
structure IX(N off k C:Nat)(d G G':Nat->Nat):Prop where
 sum:wv G' off k+LB^k*C=wv G off k+lv d k
 old:∀j,(j<off\/off+k<=j)->G' j=G j
 lt:∀j,j<N->G' j<LB
 awV:C<=1
def Yn{N off:Nat}{d G:Nat->Nat}(h:∀j,j<N->G j<LB):IX N off 0 0 d G G:=
 ⟨by rfl,λ_ _=>rfl,h,jb⟩
def abh{N off k C x:Nat}{d G G':Nat->Nat}(h:IX N off k C d G G')(hd:d k<LB)(hk:off+k<N)(hx:G' (off+k)=x):
  IX N off (k+1) ((x+d k+C)/LB) d G (upd G' (off+k) ((x+d k+C)%LB)):=by
 have hx2:G (off+k)=x:=by rw[<-hx];exact(h.old _ (.inr jp)).symm
 have hxl:x<LB:=by rw[<-hx];exact h.lt _ hk
 refine⟨?_,?_,?_,?_⟩
 .have hs:=h.sum
  grind[zH,vC,gI,Nat.div_add_mod]
 .intro j hj
  rw[dh _ _ _ jb];exact h.old j jb
 .intro j hj
  by_cases e:j=off+k
  .simp_all[upd_same,di,lT]
  .rw[dh _ _ _ e];exact h.lt j hj
 .have:=h.awV
  grind[LB]
def abj{a b p r c x C L q R:Nat}(h1:a+p*C=b+L)(hs:b+p*x+L=p*q+R)(hm:q*c+r=x+C):a+p*r+p*q*c=p*q+R:=by grind
def abk{N off n C x R:Nat}{d G G':Nat->Nat}(h:IX N off n C d G G')(hk:off+n<N)(hx:G' (off+n)=x)
  (hs:wv G off (n+1)+lv d n=LB^(n+1)+R) (hR:R<LB^(n+1)):
  wv (upd G' (off+n) ((x+C)%LB)) off (n+1)=R/\
   (∀j,(j<off\/off+n+1<=j)->upd G' (off+n) ((x+C)%LB) j=G j)/\∀j,j<N->upd G' (off+n) ((x+C)%LB) j<LB:=by
 have hx2:G (off+n)=x:=by rw[<-hx];exact(h.old _ (.inr jp)).symm
 have hlt:∀j,j<N->upd G' (off+n) ((x+C)%LB) j<LB:=by
  intro j hj;by_cases e:j=off+n
  .simp_all[upd_same,di,lT]
  .rw[dh _ _ _ e];exact h.lt j hj
 refine⟨?_,?_,hlt⟩
 .have hw:=ai9 (off:=off) (k:=n+1) hlt jb
  have h1:=h.sum
  have hm:=du (x+C) LB
  rw[zH]at hw⊢
  rw[vC,hx2]at hs
  rw[dC]at*
  generalize (x+C)/LB=c' at*
  generalize (x+C)%LB=r at*
  generalize LB^n=p at*
  generalize wv G' off n=a at*
  generalize wv G off n=b at*
  have e3:a+p*r+p*LB*c'=p*LB+R:=abj h1 hs hm
  have e4:(a+p*r+p*LB*c')%(p*LB)=(p*LB+R)%(p*LB):=by rw[e3]
  rw[Nat.add_mul_mod_self_left,eL hw,Nat.add_mod_left,eL hR]at e4
  exact e4
 .intro j hj
  rw[dh _ _ _ jb];exact h.old j jb
structure BO(N n q m V U0:Nat)(G O:Nat->Nat):Prop where
 sum:U0=V*LB^m*hv O m q+lv G (m+n)
 top:wv G m n<V
 lO:∀j,m<=j->j<q->O j<LB
 lG:∀j,j<N->G j<LB
 zero:m<q->G (m+n)=0
def abl{N n q V U0:Nat}{G O:Nat->Nat}(hU:lv G N=U0)(hN:q+n=N)(hlt:U0<LB^q*V)(lG:∀j,j<N->G j<LB):BO N n q q V U0 G O:=by
 refine⟨by grind[ai3],?_,λj h1 h2=>jb,lG,λh=>jb⟩;have h1:=xR G q n;rw[hN,hU]at h1;have h2:LB^q*wv G q n<LB^q*V:=by unfold wv;omega
 exact Nat.lt_of_mul_lt_mul_left h2
def KW{N n q i V U0:Nat}{G O:Nat->Nat}(h:BO N n q (i+1) V U0 G O)(hi:i<N):wv G i (n+1)<V*LB:=by
 have h1:wv G i (n+1)=G i+LB*wv G (i+1) n:=by grind[wv,Xg]
 have h2:=h.lG i hi;have h3:wv G (i+1) n*LB+LB<=V*LB:=by rw[<-cj];exact bp _ h.top
 grind
def afC{N n q i V U0:Nat}{G G' O:Nat->Nat}(h:BO N n q (i+1) V U0 G O)(hi:i<q)(hV:0<V)(hVn:V<LB^n)(hN:i+n+1<=N)
  (hw:wv G' i (n+1)=wv G i (n+1)%V) (old:∀j,(j<i\/i+n+1<=j)->G' j=G j) (lG:∀j,j<N->G' j<LB):
  BO N n q i V U0 G' (upd O i (wv G i (n+1)/V)):=by
 have hwin:=KW h jb
 have hmod:=di (wv G i (n+1)) hV
 have awW:G' (i+n)=0:=by
  have h1:=vC G' i n;rw[hw]at h1;rcases eE (G' (i+n))with e|e
  .exact e
  .have:LB^n*1<=LB^n*G' (i+n):=cw _ e;omega
 have hw2:wv G' i n=wv G i (n+1)%V:=by grind[vC]
 refine⟨?_,jb,?_,lG,λ_=>awW⟩
 .have hs:=h.sum
  have e1:lv G (i+1+n)=lv G i+LB^i*wv G i (n+1):=by rw[show i+1+n=i+(n+1) by omega];exact xR G i (n+1)
  have e2:lv G' (i+n)=lv G i+LB^i*(wv G i (n+1)%V):=by simp_all[xR,rM,wv]
  have e3:hv (upd O i (wv G i (n+1)/V)) i q=wv G i (n+1)/V+LB*hv O (i+1) q:=by grind[Vs,upd_same,Yl,dh]
  rw[e1]at hs
  rw[e2,e3]
  have hd:=du (wv G i (n+1)) V
  grind
 .intro j h1 h2
  by_cases e:j=i
  .simp_all[upd_same,dT]
  .rw[dh _ _ _ e];exact h.lO j jb h2
def aja{N n q s x y U0:Nat}{G O:Nat->Nat}(h:BO N n q 0 (y*2^s) U0 G O)(hU:U0=x*2^s):
  lv O q=x/y/\lv G n=x%y*2^s/\(∀j,j<q->O j<LB):=by
 have hp:0<2^s:=dq jb
 have h1:=h.sum
 have h2:=h.top
 rw[ac9,Nat.pow_zero,fv,cL]at h1
 have h3:wv G 0 n=lv G n:=rM λj _=>by simp
 rw[h3]at h2
 have hy:0<y:=by grind
 have hV:0<y*2^s:=cg hy hp
 have h4:U0/(y*2^s)=lv O q:=by grind[Nat.mul_add_div,Nat.div_eq_of_lt]
 have h5:U0%(y*2^s)=lv G n:=by grind[Nat.mul_add_mod,Nat.mod_eq_of_lt]
 refine⟨?_,?_,λj hj=>h.lO j (br _) hj⟩
 .grind[Nat.mul_div_mul_right]
 grind[Nat.mul_mod_mul_right]
def ajb{D f:Nat->Nat}{n s:Nat}(hn:0<n)(hD:lv D n=lv f n*2^s)(lD:∀j,j<n->D j<LB)(hs:LB<=2*(f (n-1)*2^s)):LB<=2*D (n-1):=by
 obtain⟨k,rfl⟩:∃k,n=k+1:=⟨n-1,jb⟩
 rw[Nat.add_sub_cancel]at*;rcases fM (2*D k) LB with h|h
 .exfalso;have h1:lv D (k+1)<LB^k*(D k+1):=by rw[gI,Nat.mul_succ];have:=KL (f:=D) (n:=k) (λj hj=>lD j jb);omega
  have h2:LB^k*f k*2^s<=lv f (k+1)*2^s:=bp _ (by rw[gI];omega);have h3:LB^k*LB<=LB^k*(2*(f k*2^s)):=cw _ hs;have h4:LB^k*(2*(D k+1))<=LB^k*LB:=cw _ (by grind[LB]);grind
 .exact h
def afD{fx fy:Nat->Nat}{lx ly q s:Nat}(hx:Can fx lx)(hy:Can fy ly)(hly:0<ly)(hq:q+ly=lx+1):lv fx lx*2^s<LB^q*(lv fy ly*2^s):=by
 have h1:=hx.lt;have h2:=hy.ge hly;have e:LB^lx=LB^q*LB^(ly-1):=by rw[<-eg,show q+(ly-1)=lx by omega]
 have h3:LB^q*LB^(ly-1)<=LB^q*lv fy ly:=cw _ h2;rw[<-fT];exact eI jb (dq jb)
end Go.Proofs.Ins
namespace Go.Proofs
open Go.Shelf
def Tryz.lays128_ren:Go.Shelf.Ren:=⟨λ|128=>227|n=>n,λ|51=>177|3=>3|4=>4|46=>73|5=>5|9=>9|n=>n,λ|n=>n⟩
def Tryz.lays133_ren:Go.Shelf.Ren:=⟨λ|133=>206|128=>227|n=>n,λ|51=>177|3=>3|4=>4|46=>73|5=>5|9=>9|n=>n,λ|n=>n⟩
def Tryz.lays133:Go.Proofs.Lays.n133 Tryz.prog Tryz.lays133_ren:={
  mixed:=by kernel_rfl
  f128:=Tryz.func227.trans (bO some (by kernel_rfl))
  f133:=Tryz.func206.trans (bO some (by kernel_rfl))
  t3:=Tryz.underlying3
  a3:=Tryz.isAgg3
  z3:=Tryz.sizeOf3
  v3:=Tryz.zeroValue3
  t4:=Tryz.underlying4
  a4:=Tryz.isAgg4
  z4:=Tryz.sizeOf4
  v4:=Tryz.zeroValue4
  t5:=Tryz.underlying5
  a5:=Tryz.isAgg5
  z5:=Tryz.sizeOf5
  v5:=Tryz.zeroValue5
  t9:=Tryz.underlying9
  a9:=Tryz.isAgg9
  z9:=Tryz.sizeOf9
  v9:=Tryz.zeroValue9
  t46:=Tryz.underlying73
  a46:=Tryz.isAgg73
  z46:=Tryz.sizeOf73
  v46:=Tryz.zeroValue73
  t51:=Tryz.underlying177
  a51:=Tryz.isAgg177
  z51:=Tryz.sizeOf177
  v51:=Tryz.zeroValue177 }
def Tryz.bits_LeadingZeros32(x:Int)(w:World)(h0:0<=x)(h1:x<=4294967295):
    Calls Tryz.prog 206 #[.int .u32 x] w λe w'=>e=.returned (.int .i64 (32-(Lib.bitLen x.toNat:Int)))/\w'=w:=Any.bits_LeadingZeros32 Tryz.lays133 x w h0 h1
end Go.Proofs
namespace Go.Proofs.Ins
open Go.RowKit
def O6:∀(k x:Nat),x<2^k->k<=32->0<x->0<Lib.bitLen x/\Lib.bitLen x<=k/\2^(Lib.bitLen x-1)<=x/\x<2^Lib.bitLen x:=by
 intro k;induction k with
 |zero=>intro x h _ h0;omega
 |succ k ih=>
  intro x h hk h0
  have hx:x<2^64:=aM h (bB jb jb)
  have e:=Lib.bitLen_half x jb hx
  by_cases h1:x=1
  .subst h1
   have e1:Lib.bitLen 1=1:=by decide
   rw[e1];exact⟨jb,jb,jj,jj⟩
  .have h2:x/2<2^k:=by rw[dC]at h;omega
   obtain⟨g1,g2,g3,g4⟩:=ih (x/2) h2 jb jb
   generalize Lib.bitLen (x/2)=b at*
   rw[e]
   have p1:2^(1+b-1)=2*2^(b-1):=by rw[show 1+b-1=(b-1)+1 by omega,dC,dE]
   have p2:2^(1+b)=2*2^b:=by rw[eN,dC,dE]
   rw[p1,p2];omega
def lz(x:Nat):Nat:=32-Lib.bitLen x
def anQ{x:Nat}(h0:0<x)(h:x<LB):lz x<32/\LB<=2*(x*2^lz x)/\x*2^lz x<LB:=by
 obtain⟨g1,g2,g3,g4⟩:=O6 32 x h jb h0;unfold lz;generalize Lib.bitLen x=b at*;refine⟨jb,?_,?_⟩
 .have e:LB=2*(2^(b-1)*2^(32-b)):=by rw[<-eg,show b-1+(32-b)=31 by omega];rfl
  rw[e];exact cw _ (bp _ g3)
 .have e:LB=2^b*2^(32-b):=by rw[<-eg,show b+(32-b)=32 by omega];rfl
  rw[e];exact eI g4 (dq jb)
def anR(x:Nat)(w:World)(h0:0<x)(h:x<LB):
  Calls Tryz.prog 206 #[.int .u32 (x:Int)] w λe w'=>e=.returned (.int .i64 (lz x:Nat))/\w=w':=by
 obtain⟨g1,g2,g3,g4⟩:=O6 32 x h jb h0
 refine(Tryz.bits_LeadingZeros32 (x:Int) w jb (by unfold LB at h;omega)).mono ?_
 rintro e w' ⟨he,hw⟩
 refine⟨he.trans (wY ?_),hw.symm⟩
 unfold lz
 rw[gi];omega
def abm(r a:Nat)(hr:r<LB)(ha:a<LB):bits BinOp.or .u64 ((r:Int)*4294967296) a=((r*LB+a:Nat):Int):=by
 have h1:((r:Int)*4294967296)=((r*LB:Nat):Int):=by rw[Dh];omega
 have h2:r*LB<2^64:=by unfold LB at*;omega
 have h3:a<2^64:=by unfold LB at*;omega
 rw[h1,(bits_nat .u64 64 jj (λn h0 h1=>IntWalk.u64_in n jb) (r*LB) a h2 h3).2];have e:LB=2^32:=rfl;rw[e]at*;rw[dE,<-ip ha]
def ajc(R a d:Nat)(hR:R<d)(ha:a<LB):IntKind.u64.wrap (((R:Int)*(LB:Nat)+a).tdiv d)%4294967296=(((R*LB+a)/d:Nat):Int):=by
 have h1:((R:Int)*(LB:Nat)+a)=((R*LB+a:Nat):Int):=by simp only[Int.natCast_add,eC]
 have h2:(R*LB+a)/d<LB:=by
  apply dT;have:R*LB+LB<=d*LB:=by rw[<-cj];exact bp _ hR
  omega
 rw[h1,gd jb,<-ir];generalize (R*LB+a)/d=q at*;rw[Dh]at h2;rw[IntWalk.u64_in _ jb];omega
def anS(w:World)(x d:Nat)(e:Ending)(w':World):Prop:=
 ∃a len cap,e=.returned (.tuple #[.slice a len cap,.int .u32 ((x%d:Nat):Int)])/\len<=cap/\cap<=9223372036854775807/\Limbs w' a len (x/d)/\Below w.heap.size w w'
def JY(b1 o1 n c1 d:Nat)(f:Nat->Nat)(w:World)(hn:n<=1073741824)(hf:Reads w b1 o1 .u32 n f)(lf:∀j,j<n->f j<LB)(hd0:0<d)(hd:d<LB)(hn0:0<n):
  Calls Tryz.prog 205 #[.slice (some ⟨b1,o1,none⟩) n c1,.int .u32 d] w (anS w (lv f n) d):=by
 have D0:(0:Int)<(d:Int):=jb
 have D1:(d:Int)<=4294967295:=by unfold LB at hd;omega
 go_enter Tryz.func205,Tryz.ntmps205
 go_wp2_with (refine iE _ _ 175 177 .u32 4 n _ rfl rfl Tryz.underlying175 xu rfl rfl jb jb jb ?_;intro w3 hr3 hb3 hz3)
 go_loopw [7,8] (λr i wr=>∃(I:Int) (R:Nat),i=.int .i64 I/\-1<=I/\I<n/\r=.int .u64 (R:Int)/\(∃O,Row wr w.heap.size 177 .u32 n O/\OZ f O n (I+1).toNat d R)/\Below w.heap.size w wr) (λ_ i _=>(intOf i+1).toNat)
 case atStart=>exact⟨_,0,rfl,jb,jb,rfl,⟨_,hr3,by rw[show((n:Int)-1+1).toNat=n by omega];exact afz _ _ _ _ hd0⟩,hb3⟩
 case round=>
  obtain⟨I,R,rfl,hI1,hI2,rfl,⟨O,hrow,hdiv⟩,hbel⟩:=hrel;clear hr3 hb3 hz3;have hR:=hdiv.2.1;by_cases h0:I=-1
  .subst h0;obtain⟨e1,e2,e3⟩:=anM hdiv;have E1:=jx e1;have E2:=jx e2;have E3:=jx e3;have uS:=jx hrow;clear e1 e2 e3 hrow hdiv;go_wp2_with fail;refine(Dl w w.heap.size n 177 _ _ jb uS.out E3.out hbel).mono ?_;rintro e w' ⟨a,len,cap,rfl,h1,h2,h3,h4⟩;rw[E1.out]at h3;go_wp2;go_ret2;exact⟨a,len,cap,by rw[<-E2.out];rfl,h1,h2,h3,h4⟩
  .obtain⟨m,rfl⟩:=cn (show 0<=I by omega);rw[show((m:Int)+1).toNat=m+1 by omega]at hdiv;have hm:m<n:=jb;have hcell:=(hf.below hbel (hf.lt hn0)) m hm;have hold:=hrow.cell (j:=m) hm;have hfr:=hrow.frozen m;have hor:=abm R (f m) jb (lf m hm);have hst:=ai4 hdiv hm (lf m hm);have HST:=jx hst;have uS:=jx hrow;clear hst hrow hdiv;have R0:(0:Int)<=(R:Int):=jb;have R1:(R:Int)<=4294967294:=jb;have FM:=lf m hm;have F1:(f m:Int)<=4294967295:=by unfold LB at FM;omega
   go_wp2;go_roundw
   case rel=>
    refine⟨(m:Int)-1,(R*LB+f m)%d,rfl,jb,jb,?_,⟨upd O m ((R*LB+f m)/d),?_,?_⟩,hbel.setCell jp _⟩
    .simp only[Int.natCast_emod,Int.natCast_add,eC]
    .rw[ajc R (f m) d hR FM];exact uS.out.set m _
    .rw[show((m:Int)-1+1).toNat=m by omega];exact HST.out
   case measure=>simp[intOf]
def as5(c u s:Nat)(hs:s<32)(hc:c<2^s)(hu:u<LB):
  bits BinOp.or .u32 (c:Int) ((u:Int)*2^s%4294967296)=((c+(u%2^(32-s))*2^s:Nat):Int):=by
 have h1:((u:Int)*2^s%4294967296)=(((u*2^s)%LB:Nat):Int):=by rw[Int.natCast_emod,eC,Int.natCast_pow];rfl
 rw[h1,Vt hs]
 have h2:=O4 (u:=u) hs hc
 have h3:=ag9 c (u%2^(32-s)) s hc (by unfold LB at h2;exact h2)
 rw[<-h3];push_cast;rfl
def Yo(u s:Nat)(hs:s<32)(hu:u<LB):IntKind.u64.wrap ((u:Int)*2^s)=((u*2^s:Nat):Int):=by
 have h1:((u:Int)*2^s)=((u*2^s:Nat):Int):=by rw[eC,Int.natCast_pow];rfl
 have h2:u*2^s<LB*2^32:=aM (eI hu (dq jb)) (cw _ (bB jb jb));rw[h1];generalize u*2^s=x at*;unfold LB at h2;exact IntWalk.u64_in _ jb
def Tz(c u s:Nat)(hs:s<32)(hc:c<2^s)(hu:u<LB):
  bits BinOp.or .u32 (c:Int) (IntKind.u64.wrap ((u:Int)*2^s)%4294967296)=((c+(u%2^(32-s))*2^s:Nat):Int):=by
 rw[Yo u s hs hu,<-as5 c u s hs hc hu,eC,Int.natCast_pow];rfl
def afE(u s:Nat)(hs:s<32)(hu:u<LB):
  bits BinOp.or .u32 0 (IntKind.u64.wrap ((u:Int)*2^s)/4294967296%4294967296)=((u*2^s/LB:Nat):Int):=by
 have h1:=Ym hs hu
 have h2:2^s<=LB:=by rw[DY (il hs)];exact Nat.le_mul_of_pos_left _ (dq jb)
 rw[Yo u s hs hu]
 have h3:(((u*2^s:Nat):Int)/4294967296%4294967296)=((u*2^s/LB:Nat):Int):=by rw[Dh]at*;generalize u*2^s=x at*;omega
 rw[h3]
 generalize u*2^s/LB=q at*
 have h4:((0:Int))=((0:Nat):Int):=rfl
 rw[h4,ac6 0 q jb (by unfold LB at h2;omega),Nat.zero_or]
def as6(w:World)(T:TypeId)(n x:Nat)(e:Ending)(w':World):Prop:=
 ∃O,e=.returned (.slice (some ⟨w.heap.size,0,none⟩) n n)/\Row w' w.heap.size T .u32 n O/\lv O n=x/\(∀j,j<n->O j<LB)/\Below w.heap.size w w'
def O7(b1 o1 la c1 s n:Nat)(f:Nat->Nat)(w:World)(hn:n<=1073741825)(hf:Reads w b1 o1 .u32 la f)(lf:∀j,j<la->f j<LB)(hs:s<32)(hla:0<la)(hln:la<=n)
  (hroom:la<n\/f (la-1)*2^s<LB):
  Calls Tryz.prog 207 #[.slice (some ⟨b1,o1,none⟩) la c1,.int .u64 (s:Int),.int .i64 (n:Int)] w (as6 w 177 n (lv f la*2^s)):=by
 go_enter Tryz.func207,Tryz.ntmps207
 go_wp2_with (refine iE _ _ 175 177 .u32 4 n _ rfl rfl Tryz.underlying175 xu rfl rfl jb jb jb ?_;intro w3 hr3 hb3 hz3)
 go_loopw [15] (λi wr=>∃k:Nat,i=.int .i64 k/\k<=la/\(∃O,Row wr w.heap.size 177 .u32 n O/\(k<n->O1 f O n k s)/\(k=n->lv O n=lv f la*2^s/\∀j,j<n->O j<LB))/\Below w.heap.size w wr) (λi _=>la-(intOf i).toNat)
 case atStart=>exact⟨0,rfl,jb,⟨_,hr3,λ_=>afA f n s,λh=>jb⟩,hb3⟩
 case round=>
  obtain⟨k,rfl,hk,⟨O,hrow,hsh,hen⟩,hbel⟩:=hrel;clear hr3 hb3 hz3;by_cases hlt:k<la
  .have hcell:=(hf.below hbel (hf.lt hla)) k hlt;have hold:=hrow.cell (j:=k) jb;have hfr:=hrow.frozen k;have awX:=hsh jb;have fk:=lf k hlt;have F1:(f k:Int)<=4294967295:=by unfold LB at fk;omega
   have uS:=jx hrow;have HSH:=jx awX;have HF:=jx hf;clear hsh hen hrow awX hf lf;by_cases hr:k+1<n
   .have awY:=uS.out.cell (j:=k+1) jb;have hfr2:=uS.out.frozen (k+1);rw[HSH.out.2.2.2 (k+1) jb]at awY;go_wp2;go_roundw
    case rel=>
     refine⟨k+1,by go_num,jb,⟨_,?_,λ_=>ai5 HSH.out hs fk hr,λh=>jb⟩,?_⟩
     .rw[Tz _ _ _ hs HSH.out.2.2.1 fk,afE _ _ hs fk];exact(uS.out.set k _).set (k+1) _
     .exact(hbel.setCell jp _).setCell jp _
    case measure=>simp[intOf];omega
   .obtain rfl:n=k+1:=jb;obtain rfl:la=k+1:=jb;have hnr:decide ((k:Int)+1<((k+1:Nat):Int))=false:=by simp
    have hroom':f k*2^s<LB:=by
     rcases hroom with h|h
     .omega
     .simpa using h
    have HRM:=jx hroom';clear hroom hroom';go_wp2;go_roundw
    case rel=>
     refine⟨k+1,by go_num,jb,⟨_,?_,λh=>jb,λ_=>ai6 HSH.out hs HRM.out⟩,?_⟩
     .rw[Tz _ _ _ hs HSH.out.2.2.1 fk];exact(uS.out.set k _)
     .exact(hbel.setCell jp _)
    case measure=>simp[intOf]
  .obtain rfl:k=la:=jb;have hfin:lv O n=lv f k*2^s/\∀j,j<n->O j<LB:=by
    by_cases hkn:k=n
    .exact hen hkn
    .have h:=hsh jb;exact⟨by rw[<-h.1];exact Ux jb (λj h1 h2=>h.2.2.2 j jb),h.2.1⟩
   have HF:=jx hfin;have uS:=jx hrow;clear hfin hsh hen hrow hf lf hroom;go_wp2;go_ret;exact⟨O,rfl,uS.out,HF.out.1,HF.out.2,hbel⟩
def anT(a r:Nat)(hr:r<LB)(ha:a<LB):bits BinOp.or .u64 (a:Int) ((r:Int)*4294967296)=((r*LB+a:Nat):Int):=by
 have h1:((r:Int)*4294967296)=((r*LB:Nat):Int):=by rw[Dh];omega
 have h2:r*LB<2^64:=by unfold LB at*;omega
 have h3:a<2^64:=by unfold LB at*;omega
 rw[h1,(bits_nat .u64 64 jj (λn h0 h1=>IntWalk.u64_in n jb) a (r*LB) h3 h2).2];have e:LB=2^32:=rfl;rw[e]at*;rw[Nat.or_comm,dE,<-ip ha]
def TA(f:Nat->Nat)(s i:Nat)(x:Int)(hx:x=((f (i+1)*LB+f i:Nat):Int)):x/2^s%4294967296=((Rk f s i:Nat):Int):=by subst hx;unfold Rk;rw[eN,dE,Int.natCast_emod,ir,Int.natCast_pow];rfl
def anU(f:Nat->Nat)(s i:Nat):Rk f s i<LB:=di _ lT
def Vu(b1 o1 n c1 s x:Nat)(f:Nat->Nat)(w:World)(hn:n<=1073741825)(hn0:0<n)(hf:Reads w b1 o1 .u32 n f)(lf:∀j,j<n->f j<LB)(hs:s<32)(hx:lv f n=x*2^s):
  Calls Tryz.prog 209 #[.slice (some ⟨b1,o1,none⟩) n c1,.int .u64 (s:Int)] w (Ii w x):=by
 have Hx:=jx hx
 clear hx
 go_enter Tryz.func209,Tryz.ntmps209
 go_wp2_with (refine iE _ _ 175 177 .u32 4 n _ rfl rfl Tryz.underlying175 xu rfl rfl jb jb jb ?_;intro w3 hr3 hb3 hz3)
 go_loopw [13] (λi wr=>∃k:Nat,i=.int .i64 k/\k<=n/\Row wr w.heap.size 177 .u32 n (ext (Rk (ext f n) s) k)/\Below w.heap.size w wr) (λi _=>n-(intOf i).toNat)
 case atStart=>exact⟨0,rfl,jb,hr3.congr (λj _=>by rw[jX jb]),hb3⟩
 case round=>
  obtain⟨k,rfl,hk,hrow,hbel⟩:=hrel;clear hr3 hb3 hz3;by_cases hlt:k<n
  .have hcell:=(hf.below hbel (hf.lt hn0)) k hlt;have hold:=hrow.cell (j:=k) hlt;have hfr:=hrow.frozen k;have uS:=jx hrow;have FK:=lf k hlt;have F1:(f k:Int)<=4294967295:=by unfold LB at FK;omega
   by_cases hlt2:k+1<n
   .have hcell2:=(hf.below hbel (hf.lt hn0)) (k+1) hlt2;have GK:=lf (k+1) hlt2;have G1:(f (k+1):Int)<=4294967295:=by unfold LB at GK;omega
    have hc:=TA (ext f n) s k (bits BinOp.or .u64 (f k:Int) ((f (k+1):Int)*4294967296)) (by rw[rO hlt,rO hlt2];exact anT (f k) (f (k+1)) GK FK);have HC:=jx hc;clear hc hrow hf lf;go_wp2;go_roundw
    case rel=>
     refine⟨k+1,by go_num,jb,?_,hbel.setCell jp _⟩;rw[HC.out];exact(uS.out.set k _).congr λj _=>MI _ k _ rfl j
    case measure=>simp[intOf];omega
   .have hc:=TA (ext f n) s k (f k) (by rw[rO hlt,jX jb];simp);have HC:=jx hc;have hnr:decide ((k:Int)+1<(n:Int))=false:=by simp;omega
    clear hc hrow hf lf;go_wp2;go_roundw
    case rel=>
     refine⟨k+1,by go_num,jb,?_,hbel.setCell jp _⟩;rw[HC.out];exact(uS.out.set k _).congr λj _=>MI _ k _ rfl j
    case measure=>simp[intOf];omega
  .obtain rfl:k=n:=jb;have hfin:lv (ext (Rk (ext f k) s) k) k=x:=by rw[xU jp];exact anO hs (λj _=>nT lf j) (jX jp) (by rw[xU jp];exact Hx.out)
   have azm:=jx hfin;have uS:=jx hrow;clear hfin hrow hf lf;go_wp2_with fail;refine(Dl w w.heap.size k 177 _ _ jb uS.out (λj _=>nT (λj _=>anU _ _ _) j) hbel).mono ?_;rintro e w' ⟨a,len,cap,rfl,h1,h2,h3,h4⟩;rw[azm.out]at h3;go_wp2;go_ret;exact⟨a,len,cap,rfl,h1,h2,h3,h4⟩
end Go.Proofs.Ins
