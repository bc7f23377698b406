import Derived.Test.YtodnohicahohdaaGreatDoorYh1
import Derived.Lib.BitFns
import Derived.Test.YtodnohicahohdaaGreatDoorProg
import Derived.Deep.QuietTactic
import Derived.Lib.Strings
import Derived.Lib.Hide
import Derived.Lib.Bytealg
import Derived.Test.YtodnohicahohdaaGreatDoorTie
import Derived.ProofKit
import Derived.OpenShut
import Derived.Deep.Slices
import Derived.Deep.Strs
import Derived.Lib.SmallJoins
import Derived.Carry
import Derived.LaidMore
import Derived.Stop.Joined
set_option linter.all false
set_option maxRecDepth 100000
set_option maxHeartbeats 8000000
namespace Go.Proofs.Ins
def hv(f:Nat->Nat)(m n:Nat):Nat:=lv (λj=>f (m+j)) (n-m)
theorem aiL(f:Nat->Nat)(n:Nat):hv f n n=0:=by unfold hv;rw[Nat.sub_self];rfl
theorem ad2(f:Nat->Nat)(n:Nat):hv f 0 n=lv f n:=by unfold hv;simp
theorem VW(f:Nat->Nat){m n:Nat}(h:m<n):hv f m n=f m+LB*hv f (m+1) n:=by
 unfold hv;obtain⟨d,hd⟩:∃d,n-m=d+1:=⟨n-m-1,jb⟩
 grind[Yt]
theorem YC{f g:Nat->Nat}{m n:Nat}(h:∀j,m<=j->j<n->f j=g j):hv f m n=hv g m n:=
 lW λj hj=>h _ jb jb
def Pg(f O:Nat->Nat)(n m d r:Nat):Prop:=hv f m n=d*hv O m n+r/\r<d/\(∀j,m<=j->j<n->O j<LB)
def af0(f O:Nat->Nat)(n d:Nat)(hd:0<d):Pg f O n n d 0:=⟨by grind[aiL],hd,λj h1 h2=>jb⟩
def aiM{f O:Nat->Nat}{n m d r:Nat}(h:Pg f O n (m+1) d r)(hm:m<n)(hf:f m<LB):
  Pg f (upd O m ((r*LB+f m)/d)) n m d ((r*LB+f m)%d):=by
 obtain⟨h1,h2,h3⟩:=h
 have hd:0<d:=jb
 have hq:(r*LB+f m)/d<LB:=by
  apply dy;have:r*LB+LB<=d*LB:=by rw[<-cf];exact bq _ h2
  omega
 refine⟨?_,de _ hd,?_⟩
 .rw[VW f hm,VW _ hm,upd_same,YC (g:=O) (λj h4 h5=>cO _ _ _ jb),h1]
  have hx:=df (r*LB+f m) d
  generalize (r*LB+f m)/d=q at*
  generalize (r*LB+f m)%d=s at*
  generalize hv O (m+1) n=Q at*
  rw[Nat.mul_add,Nat.mul_add]
  have e:LB*(d*Q)=d*(LB*Q):=by rw[<-fq,<-fq,cW LB d]
  have e2:LB*r=r*LB:=cW _ _
  omega
 .intro j h4 h5
  by_cases e:j=m
  .subst e;rw[upd_same];exact hq
  .rw[cO _ _ _ e];exact h3 j jb h5
def an1{f O:Nat->Nat}{n d r:Nat}(h:Pg f O n 0 d r):lv O n=lv f n/d/\r=lv f n%d/\∀j,j<n->O j<LB:=by obtain⟨h1,h2,h3⟩:=h;grind[Go.Proofs.Ins.ad2,Nat.mul_add_div,Nat.div_eq_of_lt,Nat.mul_add_mod,Nat.mod_eq_of_lt]
theorem Jc{s:Nat}(hs:s<=32):LB=2^(32-s)*2^s:=by rw[<-dx,Nat.sub_add_cancel hs];rfl
def KC(f O:Nat->Nat)(N i s:Nat):Prop:=lv O (i+1)=lv f i*2^s/\(∀j,j<N->O j<LB)/\O i<2^s/\(∀j,i<j->O j=0)
def af2(f:Nat->Nat)(N s:Nat):KC f (λ_=>0) N 0 s:=
 ⟨by simp[lv],λ_ _=>lV,du jb,λ_ _=>rfl⟩
theorem VX{u s:Nat}(hs:s<32):(u*2^s)%LB=(u%2^(32-s))*2^s:=by grind[Jc,Nat.mul_mod_mul_right]
theorem Pj{c u s:Nat}(hs:s<32)(hc:c<2^s):c+(u%2^(32-s))*2^s<LB:=by
 have h1:u%2^(32-s)<2^(32-s):=de _ (du jb);have h2:(u%2^(32-s))*2^s+2^s<=2^(32-s)*2^s:=by rw[<-cf];exact bq _ h1
 grind[Jc]
def YD{u s:Nat}(hs:s<32)(hu:u<LB):(u*2^s)/LB<2^s:=by apply dy;simp_all[du]
def aiN{f O:Nat->Nat}{N i s:Nat}(h:KC f O N i s)(hs:s<32)(hf:f i<LB)(hi:i+1<N):
  KC f (upd (upd O i (O i+(f i%2^(32-s))*2^s)) (i+1) ((f i*2^s)/LB)) N (i+1) s:=by
 obtain⟨h1,h2,h3,h4⟩:=h
 have hh:=YD hs hf
 refine⟨?_,?_,?_,?_⟩
 .rw[eG,upd_same,Bl _ jp,eG,upd_same,Bl _ jp]
  rw[eG]at h1
  rw[<-VX hs,eG,dm]
  grind[Nat.div_add_mod]
 .intro j hj
  by_cases e:j=i+1
  .grind[upd_same,Nat.lt_of_lt_of_le,Jc,Nat.le_mul_of_pos_left]
  .rw[cO _ _ _ e]
   by_cases e2:j=i
   .simp_all[upd_same,Pj]
   grind[cO]
 .grind[upd_same]
 grind[cO]
def aiO{f O:Nat->Nat}{i s:Nat}(h:KC f O (i+1) i s)(hs:s<32)(hf:f i*2^s<LB):
  lv (upd O i (O i+(f i%2^(32-s))*2^s)) (i+1)=lv f (i+1)*2^s/\∀j,j<i+1->upd O i (O i+(f i%2^(32-s))*2^s) j<LB:=by
 obtain⟨h1,h2,h3,h4⟩:=h
 grind[eG,upd_same,Bl,VX,Nat.mod_eq_of_lt,Pj,cO]
def Nq(f:Nat->Nat)(s i:Nat):Nat:=(f i+LB*f (i+1))/2^s%LB
theorem an2{f:Nat->Nat}{s i:Nat}(hs:s<32)(hf:f i<LB):2^s*Nq f s i+f i%2^s=f i+LB*(f (i+1)%2^s):=by
 have hp:0<2^s:=du jb;have hL:=Jc (ip hs);have h1:(f i+LB*f (i+1))/2^s=f i/2^s+2^(32-s)*f (i+1):=by grind[Nat.mul_comm,Nat.mul_assoc,Nat.add_mul_div_left]
 have h2:f i/2^s<2^(32-s):=by simp_all[dy,cW]
 have h3:Nq f s i=f i/2^s+2^(32-s)*(f (i+1)%2^s):=by
  unfold Nq;rw[h1];have e1:=df (f (i+1)) (2^s);have e2:f i/2^s+2^(32-s)*f (i+1)=LB*(f (i+1)/2^s)+(f i/2^s+2^(32-s)*(f (i+1)%2^s)):=by grind
  rw[e2,Nat.mul_add_mod];apply cB;have e3:f (i+1)%2^s<2^s:=de _ hp;have e4:2^(32-s)*(f (i+1)%2^s)+2^(32-s)<=2^(32-s)*2^s:=by rw[<-Nat.mul_succ];exact cn _ e3
  omega
 grind[Nat.div_add_mod]
def atp{f:Nat->Nat}{s n:Nat}(hs:s<32)(hf:∀j,j<n->f j<LB):2^s*lv (Nq f s) n+f 0%2^s=lv f n+LB^n*(f n%2^s):=by
 induction n with
 |zero=>simp[lv]
 |succ k ih=>
  grind[an2,eG]
def an3{f:Nat->Nat}{s n x:Nat}(hs:s<32)(hf:∀j,j<n->f j<LB)(h0:f n=0)(hx:lv f n=x*2^s):lv (Nq f s) n=x:=by have hp:0<2^s:=du jb;have h:=atp hs hf;rw[h0,Nat.zero_mod,Nat.mul_zero,cy,hx]at h;have h1:f 0%2^s<2^s:=de _ hp;grind[Nat.mul_add_div,Nat.div_eq_of_lt,Nat.mul_div_cancel]
structure Uh(U V top u2 d1 d2 p g r:Nat):Prop where
 sum:g*d1+r=top
 ge:U/V<=g
 le:top<=d1*LB+(LB-1)
structure KD(U V top u2 d1 d2 p:Nat):Prop where
 aiP:0<p
 d_pos:0<d1
 axU:u2<LB
 ase:d2<LB
 axV:top*LB*p+u2*p<=U
 asf:U<top*LB*p+u2*p+p
 atq:d1*LB*p+d2*p<=V
 asg:V<d1*LB*p+d2*p+p
 fits:U<V*LB
 norm:LB<=2*d1
def KD.aiQ{U V top u2 d1 d2 p:Nat}(h:KD U V top u2 d1 d2 p):0<V:=by have:=h.fits;grind
def KD.top_le{U V top u2 d1 d2 p:Nat}(h:KD U V top u2 d1 d2 p):top<=d1*LB+(LB-1):=by
 have h1:=h.axV;have h2:=h.fits;have h3:=h.asg;have h4:=h.ase;have hp:=h.aiP;have h5:V*LB<=((d1+1)*LB)*p*LB:=by
  apply bq;have e1:d2*p+p<=LB*p:=by rw[<-cf];exact bq _ h4
  have e2:(d1+1)*LB*p=d1*LB*p+LB*p:=by rw[gO,Nat.one_mul,gO]
  omega
 have h6:top*LB*p<(d1+1)*LB*p*LB:=jb;have h7:top*(LB*p)<((d1+1)*LB)*(LB*p):=by
  have e1:top*(LB*p)=top*LB*p:=(fq _ _ _).symm;have e2:((d1+1)*LB)*(LB*p)=(d1+1)*LB*p*LB:=by rw[cW LB p,<-fq]
  omega
 have h8:=ga h7;have e:(d1+1)*LB=d1*LB+LB:=by rw[gO,Nat.one_mul]
 have:=lV;omega
def KD.start{U V top u2 d1 d2 p:Nat}(h:KD U V top u2 d1 d2 p):Uh U V top u2 d1 d2 p (top/d1) (top%d1):=by
 refine⟨by grind[Nat.div_add_mod],?_,h.top_le⟩;rw[Nat.le_div_iff_mul_le h.d_pos];have h1:U/V*V<=U:=Nat.div_mul_le_self _ _;generalize U/V=q at*;have h2:q*(d1*LB*p)<=q*V:=cn _ (by have:=h.atq;omega);have h3:=h.asf;have h4:=h.axU;have hp:=h.aiP;have e1:u2*p+p<=LB*p:=by rw[<-cf];exact bq _ h4
 have e2:q*(d1*LB*p)=q*d1*(LB*p):=by grind
 have e3:(top+1)*(LB*p)=top*LB*p+LB*p:=by grind
 have h5:q*d1*(LB*p)<(top+1)*(LB*p):=jb;have:=ga h5;omega
def KD.lower{U V top u2 d1 d2 p g r:Nat}(h:KD U V top u2 d1 d2 p)(hg:Uh U V top u2 d1 d2 p g r)(hc:LB<=g\/r*LB+u2<g*d2):
  0<g/\Uh U V top u2 d1 d2 p (g-1) (r+d1):=by
 have hV:=h.aiQ
 have hq:U/V<g:=by
  rcases hc with hc|hc
  .have:U/V<LB:=dy h.fits;omega
  .rcases dE (U/V) g with hx|hx
   .exact hx
   .exfalso;have h1:U/V*V<=U:=Nat.div_mul_le_self _ _;have h2:g*V<=U:=ar (bq _ hx) h1;have h3:g*(d1*LB*p+d2*p)<=g*V:=cn _ h.atq;have h4:=h.asf;have h5:=hg.sum;have e1:g*(d1*LB*p+d2*p)=(g*d1*LB+g*d2)*p:=by grind
    have e2:top*LB*p+u2*p+p=(top*LB+u2+1)*p:=by grind
    have h6:(g*d1*LB+g*d2)*p<(top*LB+u2+1)*p:=jb;have h7:=ga h6;have e3:top*LB=g*d1*LB+r*LB:=by grind
    omega
 have hpos:0<g:=cT (aR _) hq
 refine⟨hpos,?_,Nat.le_sub_one_of_lt hq,hg.le⟩
 have h5:=hg.sum
 have:g*d1=(g-1)*d1+d1:=by
  obtain⟨k,rfl⟩:∃k,g=k+1:=⟨g-1,jb⟩
  grind
 omega
def KD.done{U V top u2 d1 d2 p g r:Nat}(h:KD U V top u2 d1 d2 p)(hg:Uh U V top u2 d1 d2 p g r)(hc:(g<LB/\g*d2<=r*LB+u2)\/LB<=r):
  g<LB/\g<=U/V+1:=by
 have hV:=h.aiQ
 have hs:=hg.sum
 have hgl:g<LB:=by
  rcases hc with hc|hc
  .exact hc.1
  .have h1:=hg.le;have h2:g*d1<LB*d1:=by grind[lV]
   exact ga h2
 have hle:g*d2<=r*LB+u2:=by
  rcases hc with hc|hc
  .exact hc.2
  .have h1:g*d2<=LB*LB:=cK (ip hgl) (ip h.ase);grind[LB]
 refine⟨hgl,?_⟩
 have hp:=h.aiP
 have h1:g*(d1*LB*p+d2*p)<=U:=by
  have e1:g*(d1*LB*p+d2*p)=(g*d1*LB+g*d2)*p:=by grind
  have e3:top*LB=g*d1*LB+r*LB:=by grind
  have e4:(g*d1*LB+g*d2)*p<=(top*LB+u2)*p:=bq _ jb;have e5:(top*LB+u2)*p=top*LB*p+u2*p:=by grind
  have:=h.axV;omega
 have h2:g*V<=g*(d1*LB*p+d2*p)+g*p:=by rw[<-Nat.mul_add];exact cn _ (by have:=h.asg;omega)
 have h3:g*p<LB*p:=eZ hgl hp
 have h4:LB*p<=V:=by have:=h.atq;have e:1*(LB*p)<=d1*(LB*p):=bq _ h.d_pos;grind
 have h5:g*V<U+V:=jb
 rcases fR g with e|e
 .grind
 .have h6:(g-1)*V+V=g*V:=by
   obtain⟨k,rfl⟩:∃k,g=k+1:=⟨g-1,jb⟩
   grind
  have h7:(g-1)*V<=U:=jb
  have:=(Nat.le_div_iff_mul_le hV).mpr h7
  omega
def KD.small{U V top u2 d1 d2 p g r:Nat}(h:KD U V top u2 d1 d2 p)(hg:Uh U V top u2 d1 d2 p g r):g<=LB+1:=by
 have h1:=hg.sum;have h2:=hg.le;have h3:=h.norm;rcases dE g (LB+2)with c|c
 .omega
 .have h4:(LB+2)*d1<=g*d1:=bq _ c;grind[lV]
def wv(G:Nat->Nat)(off k:Nat):Nat:=lv (λj=>G (off+j)) k
theorem vX(G:Nat->Nat)(off k:Nat):wv G off (k+1)=wv G off k+LB^k*G (off+k):=rfl
def atr(G:Nat->Nat)(off k v:Nat):wv (upd G (off+k) v) off k=wv G off k:=
 lW λj hj=>cO _ _ _ jb
theorem Aa(G:Nat->Nat)(off k v:Nat):wv (upd G (off+k) v) off (k+1)=wv G off k+LB^k*v:=by rw[vX,atr,upd_same]
def aiR{G:Nat->Nat}{off k N:Nat}(h:∀j,j<N->G j<LB)(hk:off+k<=N):wv G off k<LB^k:=
 IY λj hj=>h _ jb
structure Pm(N off g k C B:Nat)(d G G':Nat->Nat):Prop where
 sum:wv G' off k+g*lv d k=wv G off k+LB^k*(C+B)
 old:∀j,(j<off\/off+k<=j)->G' j=G j
 lt:∀j,j<N->G' j<LB
 axW:C<LB
 aBs:B<=1
def abH{N off g:Nat}{d G:Nat->Nat}(h:∀j,j<N->G j<LB):Pm N off g 0 0 0 d G G:=
 ⟨by rfl,λ_ _=>rfl,h,lV,jb⟩
def af4{N off g k C B dk x:Nat}{d G G':Nat->Nat}(h:Pm N off g k C B d G G')(hg:g<LB)(hd:d k<LB)(hk:off+k<N)
  (hx:G' (off+k)=x) (hdk:dk+(g*d k+C)%LB+B=x+LB*(if x<(g*d k+C)%LB+B then 1 else 0)) (hlt:dk<LB):
  Pm N off g (k+1) ((g*d k+C)/LB) (if x<(g*d k+C)%LB+B then 1 else 0) d G (upd G' (off+k) dk):=by
 have hx2:G (off+k)=x:=by rw[<-hx];exact(h.old _ (.inr jp)).symm
 refine⟨?_,?_,?_,?_,by grind⟩
 .have hs:=h.sum
  grind[Aa,vX,eG,Nat.div_add_mod,LB]
 .intro j hj
  rw[cO _ _ _ jb];exact h.old j jb
 .intro j hj
  by_cases e:j=off+k
  .grind[upd_same]
  .rw[cO _ _ _ e];exact h.lt j hj
 .apply dy
  have h1:g*d k<=(LB-1)*(LB-1):=cK jb jb
  have h2:=h.axW
  grind[LB]
def af5{N off g n C B dk x:Nat}{d G G':Nat->Nat}(h:Pm N off g n C B d G G')(hk:off+n<N)
  (hx:G' (off+n)=x) (hdk:dk+C+B=x+LB*(if x<C+B then 1 else 0)) (hlt:dk<LB):
  wv (upd G' (off+n) dk) off (n+1)+g*lv d n=wv G off (n+1)+LB^(n+1)*(if x<C+B then 1 else 0)/\
   (∀j,(j<off\/off+n+1<=j)->upd G' (off+n) dk j=G j)/\∀j,j<N->upd G' (off+n) dk j<LB:=by
 have hx2:G (off+n)=x:=by rw[<-hx];exact(h.old _ (.inr jp)).symm
 refine⟨?_,?_,?_⟩
 .have hs:=h.sum
  grind[Aa,vX]
 .intro j hj
  rw[cO _ _ _ jb];exact h.old j jb
 .intro j hj
  by_cases e:j=off+n
  .grind[upd_same]
  .rw[cO _ _ _ e];exact h.lt j hj
def abI{U V g W:Nat}(hg1:g<=U/V+1)(hg2:U/V<=g)(hV:0<V)(h:W+g*V=U):g=U/V/\W=U%V:=by grind[Nat.le_div_iff_mul_le,Nat.le_antisymm,Nat.div_add_mod]
def abJ{U V g W P:Nat}(hg1:g<=U/V+1)(hV:0<V)(h:W+g*V=U+P)(hW:W<P):g=U/V+1/\W+V=P+U%V:=by grind[Nat.div_lt_iff_lt_mul,Nat.le_antisymm,Nat.div_add_mod]
structure Jd(N off k C:Nat)(d G G':Nat->Nat):Prop where
 sum:wv G' off k+LB^k*C=wv G off k+lv d k
 old:∀j,(j<off\/off+k<=j)->G' j=G j
 lt:∀j,j<N->G' j<LB
 axX:C<=1
def YE{N off:Nat}{d G:Nat->Nat}(h:∀j,j<N->G j<LB):Jd N off 0 0 d G G:=
 ⟨by rfl,λ_ _=>rfl,h,jb⟩
def abK{N off k C x:Nat}{d G G':Nat->Nat}(h:Jd N off k C d G G')(hd:d k<LB)(hk:off+k<N)(hx:G' (off+k)=x):
  Jd N off (k+1) ((x+d k+C)/LB) d G (upd G' (off+k) ((x+d k+C)%LB)):=by
 have hx2:G (off+k)=x:=by rw[<-hx];exact(h.old _ (.inr jp)).symm
 have hxl:x<LB:=by rw[<-hx];exact h.lt _ hk
 refine⟨?_,?_,?_,?_⟩
 .have hs:=h.sum
  grind[Aa,vX,eG,Nat.div_add_mod]
 .intro j hj
  rw[cO _ _ _ jb];exact h.old j jb
 .intro j hj
  by_cases e:j=off+k
  .simp_all[upd_same,de,lV]
  .rw[cO _ _ _ e];exact h.lt j hj
 .have:=h.axX
  grind[LB]
def abL{a b p r c x C L q R:Nat}(h1:a+p*C=b+L)(hs:b+p*x+L=p*q+R)(hm:q*c+r=x+C):a+p*r+p*q*c=p*q+R:=by grind
def abM{N off n C x R:Nat}{d G G':Nat->Nat}(h:Jd N off n C d G G')(hk:off+n<N)(hx:G' (off+n)=x)
  (hs:wv G off (n+1)+lv d n=LB^(n+1)+R) (hR:R<LB^(n+1)):
  wv (upd G' (off+n) ((x+C)%LB)) off (n+1)=R/\
   (∀j,(j<off\/off+n+1<=j)->upd G' (off+n) ((x+C)%LB) j=G j)/\∀j,j<N->upd G' (off+n) ((x+C)%LB) j<LB:=by
 have hx2:G (off+n)=x:=by rw[<-hx];exact(h.old _ (.inr jp)).symm
 have hlt:∀j,j<N->upd G' (off+n) ((x+C)%LB) j<LB:=by
  intro j hj;by_cases e:j=off+n
  .simp_all[upd_same,de,lV]
  .rw[cO _ _ _ e];exact h.lt j hj
 refine⟨?_,?_,hlt⟩
 .have hw:=aiR (off:=off) (k:=n+1) hlt jb
  have h1:=h.sum
  have hm:=df (x+C) LB
  rw[Aa]at hw⊢
  rw[vX,hx2]at hs
  rw[dm]at*
  generalize (x+C)/LB=c' at*
  generalize (x+C)%LB=r at*
  generalize LB^n=p at*
  generalize wv G' off n=a at*
  generalize wv G off n=b at*
  have e3:a+p*r+p*LB*c'=p*LB+R:=abL h1 hs hm
  have e4:(a+p*r+p*LB*c')%(p*LB)=(p*LB+R)%(p*LB):=by rw[e3]
  rw[Nat.add_mul_mod_self_left,cB hw,Nat.add_mod_left,cB hR]at e4
  exact e4
 .intro j hj
  rw[cO _ _ _ jb];exact h.old j jb
structure CO(N n q m V U0:Nat)(G O:Nat->Nat):Prop where
 sum:U0=V*LB^m*hv O m q+lv G (m+n)
 top:wv G m n<V
 lO:∀j,m<=j->j<q->O j<LB
 lG:∀j,j<N->G j<LB
 zero:m<q->G (m+n)=0
def abN{N n q V U0:Nat}{G O:Nat->Nat}(hU:lv G N=U0)(hN:q+n=N)(hlt:U0<LB^q*V)(lG:∀j,j<N->G j<LB):CO N n q q V U0 G O:=by
 refine⟨by grind[aiL],?_,λj h1 h2=>jb,lG,λh=>jb⟩;have h1:=yK G q n;rw[hN,hU]at h1;have h2:LB^q*wv G q n<LB^q*V:=by unfold wv;omega
 exact Nat.lt_of_mul_lt_mul_left h2
def MF{N n q i V U0:Nat}{G O:Nat->Nat}(h:CO N n q (i+1) V U0 G O)(hi:i<N):wv G i (n+1)<V*LB:=by
 have h1:wv G i (n+1)=G i+LB*wv G (i+1) n:=by grind[wv,Yt]
 have h2:=h.lG i hi;have h3:wv G (i+1) n*LB+LB<=V*LB:=by rw[<-cf];exact bq _ h.top
 grind
def af6{N n q i V U0:Nat}{G G' O:Nat->Nat}(h:CO N n q (i+1) V U0 G O)(hi:i<q)(hV:0<V)(hVn:V<LB^n)(hN:i+n+1<=N)
  (hw:wv G' i (n+1)=wv G i (n+1)%V) (old:∀j,(j<i\/i+n+1<=j)->G' j=G j) (lG:∀j,j<N->G' j<LB):
  CO N n q i V U0 G' (upd O i (wv G i (n+1)/V)):=by
 have hwin:=MF h jb
 have hmod:=de (wv G i (n+1)) hV
 have axY:G' (i+n)=0:=by
  have h1:=vX G' i n;rw[hw]at h1;rcases fR (G' (i+n))with e|e
  .exact e
  .have:LB^n*1<=LB^n*G' (i+n):=cn _ e;omega
 have hw2:wv G' i n=wv G i (n+1)%V:=by grind[vX]
 refine⟨?_,jb,?_,lG,λ_=>axY⟩
 .have hs:=h.sum
  have e1:lv G (i+1+n)=lv G i+LB^i*wv G i (n+1):=by rw[show i+1+n=i+(n+1) by omega];exact yK G i (n+1)
  have e2:lv G' (i+n)=lv G i+LB^i*(wv G i (n+1)%V):=by simp_all[yK,lW,wv]
  have e3:hv (upd O i (wv G i (n+1)/V)) i q=wv G i (n+1)/V+LB*hv O (i+1) q:=by grind[VW,upd_same,YC,cO]
  rw[e1]at hs
  rw[e2,e3]
  have hd:=df (wv G i (n+1)) V
  grind
 .intro j h1 h2
  by_cases e:j=i
  .simp_all[upd_same,dy]
  .rw[cO _ _ _ e];exact h.lO j jb h2
def aiS{N n q s x y U0:Nat}{G O:Nat->Nat}(h:CO N n q 0 (y*2^s) U0 G O)(hU:U0=x*2^s):
  lv O q=x/y/\lv G n=x%y*2^s/\(∀j,j<q->O j<LB):=by
 have hp:0<2^s:=du jb
 have h1:=h.sum
 have h2:=h.top
 rw[ad2,Nat.pow_zero,eN,cx]at h1
 have h3:wv G 0 n=lv G n:=lW λj _=>by simp
 rw[h3]at h2
 have hy:0<y:=by grind
 have hV:0<y*2^s:=bR hy hp
 have h4:U0/(y*2^s)=lv O q:=by grind[Nat.mul_add_div,Nat.div_eq_of_lt]
 have h5:U0%(y*2^s)=lv G n:=by grind[Nat.mul_add_mod,Nat.mod_eq_of_lt]
 refine⟨?_,?_,λj hj=>h.lO j (aR _) hj⟩
 .grind[Nat.mul_div_mul_right]
 grind[Nat.mul_mod_mul_right]
def aiT{D f:Nat->Nat}{n s:Nat}(hn:0<n)(hD:lv D n=lv f n*2^s)(lD:∀j,j<n->D j<LB)(hs:LB<=2*(f (n-1)*2^s)):LB<=2*D (n-1):=by
 obtain⟨k,rfl⟩:∃k,n=k+1:=⟨n-1,jb⟩
 rw[Nat.add_sub_cancel]at*;rcases dE (2*D k) LB with h|h
 .exfalso;have h1:lv D (k+1)<LB^k*(D k+1):=by rw[eG,Nat.mul_succ];have:=IY (f:=D) (n:=k) (λj hj=>lD j jb);omega
  have h2:LB^k*f k*2^s<=lv f (k+1)*2^s:=bq _ (by rw[eG];omega);have h3:LB^k*LB<=LB^k*(2*(f k*2^s)):=cn _ hs;have h4:LB^k*(2*(D k+1))<=LB^k*LB:=cn _ (by grind[LB]);grind
 .exact h
def af7{fx fy:Nat->Nat}{lx ly q s:Nat}(hx:Can fx lx)(hy:Can fy ly)(hly:0<ly)(hq:q+ly=lx+1):lv fx lx*2^s<LB^q*(lv fy ly*2^s):=by
 have h1:=hx.lt;have h2:=hy.ge hly;have e:LB^lx=LB^q*LB^(ly-1):=by rw[<-dx,show q+(ly-1)=lx by omega]
 have h3:LB^q*LB^(ly-1)<=LB^q*lv fy ly:=cn _ h2;rw[<-fq];exact eZ jb (du jb)
def wM(x y:Nat):Int:=if x<y then-1 else if y<x then 1 else 0
theorem vY{x y:Nat}(h:x<y):wM x y=-1:=by grind[wM]
theorem vZ{x y:Nat}(h:y<x):wM x y=1:=by grind[wM]
theorem FZ(x:Nat):wM x x=0:=by grind[wM]
def Ui{x y:Nat}(h:(bn x).size<(bn y).size):x<y:=by have h1:(Np x).length<(Np y).length:=h;have h2:=MB (Np x);have h3:256^((Np y).length-1)<=bv (Np y):=Uf (IZ y) kd;rw[O1]at h2 h3;have:256^(Np x).length<=256^((Np y).length-1):=bN jb jb;omega
def CP(s:ByteArray):(bn (nv s)).size<=s.size:=mZ (Yv s)
structure N9(n off N:Nat)(G d:Nat->Nat):Prop where
 n2:2<=n
 fits:off+n+1<=N
 big:N<=1073741826
 lG:∀j,j<N->G j<LB
 lD:∀j,j<n->d j<LB
 norm:LB<=2*d (n-1)
 less:wv G off (n+1)<lv d n*LB
def N9.aBt{n off N:Nat}{G d:Nat->Nat}(h:N9 n off N G d):
  KD (wv G off (n+1)) (lv d n) (G (off+n)*LB+G (off+(n-1))) (G (off+(n-2))) (d (n-1)) (d (n-2)) (LB^(n-2)):=by
 obtain⟨m,rfl⟩:∃m,n=m+2:=⟨n-2,by have:=h.n2;omega⟩
 have hfit:=h.fits
 have f1:=h.lG (off+m) jb
 have f2:=h.lD m jb
 have f3:=h.less
 have f4:=h.norm
 have hp:0<LB^m:=du lV
 have e1:m+2-1=m+1:=jb
 have e2:m+2-2=m:=jb
 rw[e1]at f4
 rw[e1,e2]
 have g1:wv G off (m+2+1)=wv G off m+LB^m*G (off+m)+LB^m*LB*G (off+(m+1))+LB^m*LB*LB*G (off+(m+2)):=by rw[vX,vX,vX,dm LB (m+1),dm LB m]
 have g2:lv d (m+2)=lv d m+LB^m*d m+LB^m*LB*d (m+1):=by rw[eG,eG,dm]
 have g3:=aiR (off:=off) (k:=m) h.lG jb
 have g4:=IY (f:=d) (n:=m) (λj hj=>h.lD j jb)
 have hLB:=lV
 refine⟨hp,by unfold LB at f4;omega,f1,f2,?_,?_,?_,?_,f3,f4⟩
 .rw[g1];generalize LB^m=p at*;grind
 .rw[g1];generalize LB^m=p at*;grind
 .rw[g2];generalize LB^m=p at*;grind
 .rw[g2];generalize LB^m=p at*;grind
def Pn:∀(k x:Nat),x<2^k->k<=32->0<x->0<Lib.bitLen x/\Lib.bitLen x<=k/\2^(Lib.bitLen x-1)<=x/\x<2^Lib.bitLen x:=by
 intro k;induction k with
 |zero=>intro x h _ h0;omega
 |succ k ih=>
  intro x h hk h0
  have hx:x<2^64:=aE h (bN jb jb)
  have e:=Lib.bitLen_half x jb hx
  by_cases h1:x=1
  .subst h1
   have e1:Lib.bitLen 1=1:=by decide
   rw[e1];exact⟨jb,jb,jj,jj⟩
  .have h2:x/2<2^k:=by rw[dm]at h;omega
   obtain⟨g1,g2,g3,g4⟩:=ih (x/2) h2 jb jb
   generalize Lib.bitLen (x/2)=b at*
   rw[e]
   have p1:2^(1+b-1)=2*2^(b-1):=by rw[show 1+b-1=(b-1)+1 by omega,dm,cW]
   have p2:2^(1+b)=2*2^b:=by rw[dC,dm,cW]
   rw[p1,p2];omega
def lz(x:Nat):Nat:=32-Lib.bitLen x
def an4{x:Nat}(h0:0<x)(h:x<LB):lz x<32/\LB<=2*(x*2^lz x)/\x*2^lz x<LB:=by
 obtain⟨g1,g2,g3,g4⟩:=Pn 32 x h jb h0;unfold lz;generalize Lib.bitLen x=b at*;refine⟨jb,?_,?_⟩
 .have e:LB=2*(2^(b-1)*2^(32-b)):=by rw[<-dx,show b-1+(32-b)=31 by omega];rfl
  rw[e];exact cn _ (bq _ g3)
 .have e:LB=2^b*2^(32-b):=by rw[<-dx,show b+(32-b)=32 by omega];rfl
  rw[e];exact eZ g4 (du jb)
def abO(g:Nat->Nat)(n:Nat):ByteArray:=⟨((List.range n).map λj=>UInt8.ofNat (g j)).toArray⟩
def KE(g:Nat->Nat)(n:Nat):(abO g n).size=n:=by show((List.range n).map λj=>UInt8.ofNat (g j)).toArray.size=n;simp
def an5(g:Nat->Nat)(n:Nat)(hg:∀j,j<n->g j<256):nv (abO g n)=bl (λk=>g (n-1-k)) n:=by rw[<-abu,KE];apply O4;intro k hk;unfold N8;rw[KE];have:(abO g n).data.toList=(List.range n).map λj=>UInt8.ofNat (g j):=rfl;rw[this,ff,List.getElem?_map,List.getElem?_range jb];have:=hg (n-1-k) jb;simp;omega
end Go.Proofs.Ins
namespace Go.Proofs.Ins
open Go.RowKit
def axZ:Value->Nat|.string s=>s.size|_=>0
def an6(t:ByteArray)(h:0<t.size)(h0:t[0].toNat=0):nv (t.extract 1 t.size)=nv t/\(t.extract 1 t.size).size+1=t.size:=by
 have e:(t.extract 1 t.size).data.toList=t.data.toList.tail:=by rw[Lib.extract_data];simp;rw[eh];rw[List.length_tail];exact jp
 constructor
 .unfold nv;rw[e];have hs:t.data.toList.length=t.size:=rfl;cases hl:t.data.toList with
  |nil=>rw[hl]at hs;simp at hs;omega
  |cons x r=>
   have hx:t[0]=x:=by have:t[0]=t.data.toList[0]'(by rw[hs];exact h):=rfl;rw[this];simp[hl]
   rw[hx]at h0
   rw[List.tail_cons,yx,h0];simp
 .have h2:(t.extract 1 t.size).data.toList.length=t.data.toList.tail.length:=by rw[e]
  have h3:t.data.toList.length=t.size:=rfl;have h4:(t.extract 1 t.size).data.toList.length=(t.extract 1 t.size).size:=rfl;rw[List.length_tail]at h2;omega
def an7{t:ByteArray}(h:0<t.size)(h0:t[0].toNat≠0):bn (nv t)=t:=by
 apply KA;have hs:t.data.toList.length=t.size:=rfl;cases hl:t.data.toList with
 |nil=>simp
 |cons x r=>
  have hx:t[0]=x:=by have:t[0]=t.data.toList[0]'(by rw[hs];exact h):=rfl;rw[this];simp[hl]
  rw[hx]at h0
  simp only[List.head?_cons,ne_eq,aT]
  intro e;apply h0;rw[e];rfl
def Je{t:ByteArray}(h:t.size=0):bn (nv t)=t:=by apply KA;have hs:t.data.toList.length=t.size:=rfl;have:t.data.toList=[]:=gp.mp jb;rw[this];simp
def Jf(s:ByteArray)(w:World)(hs:s.size<=9223372036854775807):
  Calls Tryz.prog 319 #[.string s,.int .u8 0] w λe w'=>e=.returned (.string (bn (nv s)))/\w=w':=by
 go_enter Tryz.func319,Tryz.ntmps319
 go_wp2
 go_loop [0] (λv=>∃t:ByteArray,v=.string t/\t.size<=s.size/\nv t=nv s) (λv=>axZ v)
 case atStart=>exact⟨s,rfl,jp,rfl⟩
 case round=>
  obtain⟨t,rfl,h1,h2⟩:=hrel;by_cases h0:t.size=0
  .go_wp2;go_ret;exact⟨VL (by rw[<-h2,Je h0]),rfl⟩
  .have h3:0<t.size:=jb;have HT:=an6 t h3;have HB:=an7 h3;have HH:=And.intro HT HB;have H:Hid _:=HH;clear HT HB HH;go_wp2
   .have hc:(t[0].toNat:Int)==0:=by assumption
    have hc':t[0].toNat=0:=by simpa using hc
    obtain⟨e1,e2⟩:=H.out.1 hc';go_round
    case rel=>exact⟨_,rfl,jb,e1.trans h2⟩
    case measure=>simp[axZ];omega
   .have hc:((t[0].toNat:Int)==0)=false:=by assumption
    have hc':t[0].toNat≠0:=by simpa using hc
    go_ret;exact⟨VL (by rw[<-h2,H.out.2 hc']),rfl⟩
def Nr{s:ByteArray}(h:s.size=0):s=⟨#[]⟩:=by obtain⟨⟨l⟩⟩:=s;have:l=[]:=gp.mp h;rw[this]
def Tm{s:ByteArray}(h:¬s.size=0):s.toList.isEmpty=false/\¬s.toList=[]:=by
 obtain⟨⟨l⟩⟩:=s;rw[ByteArray.toList_eq];cases l with
 |nil=>exact absurd rfl h
 |cons _ _=>exact⟨rfl,by simp⟩
def Tn(s:ByteArray)(w:World)(hs:s.size<=9223372036854775807):
  Calls Tryz.prog 299 #[.string s,.string ⟨#[0]⟩] w λe w'=>e=.returned (.string (bn (nv s)))/\w=w':=by
 by_cases h0:s.size=0
 .have hx:=Je h0
  obtain rfl:=Nr h0
  have H:=jx hx
  clear h0 hs hx
  go_enter Tryz.func299,Tryz.ntmps299
  go_wp2
  go_ret
  exact⟨VL H.out.symm,rfl⟩
 .obtain⟨hd1,hd2⟩:=Tm h0
  have hlit:(({data:=#[0]}:ByteArray)[0].toNat:Int)=0:=rfl
  go_enter Tryz.func299,Tryz.ntmps299
  go_wp2_with (go_at_call 319;refine(Jf s _ hs).mono ?_;rintro e w' ⟨rfl,rfl⟩)
  go_ways
  go_ret
  exact⟨rfl,rfl⟩
def AB(s:ByteArray)(w:World)(hs:s.size<=9223372036854775807):
  Calls Tryz.prog 251 #[.string s] w λe w'=>e=.returned (.string (bn (nv s)))/\w=w':=by
 go_enter Tryz.func251,Tryz.ntmps251
 go_wp2_with (go_at_call 299;refine(Tn s _ hs).mono ?_;rintro e w' ⟨rfl,rfl⟩)
 go_ret
 exact⟨rfl,rfl⟩
def Ns:∀(l r:List UInt8),l.length=r.length->Lib.compareBytes l r=wM (bv l) (bv r):=by
 intro l;induction l with
 |nil=>intro r h;cases r with
  |nil=>rfl
  |cons _ _=>simp at h
 |cons a l ih=>
  intro r h
  cases r with
  |nil=>simp at h
  |cons b r=>
   have hl:l.length=r.length:=by simpa using h
   unfold Lib.compareBytes
   have h1:=MB l
   have h2:=MB r
   rw[yx,yx,hl]
   rw[hl]at h1
   by_cases c1:a<b
   .rw[ab c1]
    have:a.toNat<b.toNat:=c1
    have:a.toNat*256^r.length+256^r.length<=b.toNat*256^r.length:=by rw[<-cf];exact bq _ this
    rw[vY jb]
   .rw[ae c1]
    by_cases c2:b<a
    .rw[ab c2]
     have:b.toNat<a.toNat:=c2
     have:b.toNat*256^r.length+256^r.length<=a.toNat*256^r.length:=by rw[<-cf];exact bq _ this
     rw[vZ jb]
    .rw[ae c2,ih r hl]
     have e:a.toNat=b.toNat:=by have c1':¬a.toNat<b.toNat:=c1;have c2':¬b.toNat<a.toNat:=c2;omega
     rw[e];unfold wM
     congr 1
     .simp
     .congr 1;simp
def af8(n:Int):Int:=if n<0 then-1 else if 0<n then 1 else 0
def ad3{n:Int}(h:n<0):af8 n=-1:=by unfold af8;rw[ab h]
def ad4{n:Int}(h:0<n):af8 n=1:=by unfold af8;rw[ae jb,ab h]
def aiV(n:Int)(w:World):Calls Tryz.prog 263 #[.int .i64 n] w λe w'=>e=.returned (.int .i64 (af8 n))/\w=w':=by
 rcases(show n<0\/0<n\/n=0 by omega)with h1|h1|rfl
 .have h2:decide (n<0)=true:=by simpa using h1
  go_enter Tryz.func263,Tryz.ntmps263;go_wp2;go_ret;exact⟨I7 (ad3 h1).symm,rfl⟩
 .go_enter Tryz.func263,Tryz.ntmps263;go_wp2;go_ret;exact⟨I7 (ad4 h1).symm,rfl⟩
 .go_enter Tryz.func263,Tryz.ntmps263;go_wp2;go_ret;exact⟨rfl,rfl⟩
def aiW(a b:ByteArray)(w:World):Sem.run Tryz.prog (callFunc 339 #[Value.string a,Value.string b]) w=Sem.run Tryz.prog (do let v<-(Extern.BytealgCompare.compare #[.string a,.string b]);pure (Next.value v)) w:=by kernel_rfl
def an8(a b:ByteArray)(w:World):Sem.run Tryz.prog (callFunc 339 #[Value.string a,Value.string b]) w=.ok (Next.value (.int .i64 (Lib.compareBytes a.data.toList b.data.toList))) w:=by rw[aiW,Sem.run_bind,Lib.run_compareString];rfl
def abP(a b:ByteArray)(w:World):Calls Tryz.prog 304 #[.string a,.string b] w λe w'=>e=.returned (.int .i64 (Lib.compareBytes a.data.toList b.data.toList))/\w=w':=by have hx:=λw=>an8 a b w;go_enter Tryz.func304,Tryz.ntmps304;go_wp2;go_ret;exact⟨rfl,rfl⟩
def abQ(a b:ByteArray)(w:World):Calls Tryz.prog 264 #[.string a,.string b] w λe w'=>e=.returned (.int .i64 (Lib.compareBytes a.data.toList b.data.toList))/\w=w':=by
 go_enter Tryz.func264,Tryz.ntmps264;go_wp2_with (go_at_call 304;refine(abP _ _ _).mono ?_;rintro e w' ⟨rfl,rfl⟩)
 go_ret;exact⟨rfl,rfl⟩
def VY(a b:ByteArray)(w:World)(ha:a.size<=1073741824)(hb:b.size<=1073741824):
  Calls Tryz.prog 176 #[.string a,.string b] w λe w'=>e=.returned (.int .i64 (wM (nv a) (nv b)))/\w=w':=by
 have ha2:=CP a
 have hb2:=CP b
 obtain⟨x,hx⟩:∃x,x=bn (nv a):=⟨_,rfl⟩
 obtain⟨y,hy⟩:∃y,y=bn (nv b):=⟨_,rfl⟩
 have n1:Calls Tryz.prog 251 #[.string a] w λe w'=>e=.returned (.string x)/\w=w':=by rw[hx];exact AB a w jb
 have n2:Calls Tryz.prog 251 #[.string b] w λe w'=>e=.returned (.string y)/\w=w':=by rw[hy];exact AB b w jb
 rw[<-hx]at ha2
 rw[<-hy]at hb2
 have Hx:=jx hx
 have Hy:=jx hy
 have N1:=jx n1
 have N2:=jx n2
 clear hx hy n1 n2
 by_cases hlen:x.size=y.size
 .have hcmp:Lib.compareBytes x.data.toList y.data.toList=wM (nv a) (nv b):=by
   rw[Ns _ _ hlen];have e1:bv x.data.toList=nv a:=by rw[Hx.out];exact dS _
   have e2:bv y.data.toList=nv b:=by rw[Hy.out];exact dS _
   rw[e1,e2]
  have HC:=jx hcmp
  have HL:((x.size:Int)==(y.size:Int))=true:=by simp;omega
  have HL2:((x.size:Int) !=(y.size:Int))=false:=by simp;omega
  clear hcmp hlen
  go_enter Tryz.func176,Tryz.ntmps176
  go_wp2_with fail
  refine N1.out.mono ?_;rintro e w' ⟨rfl,rfl⟩
  go_wp2_with fail
  refine N2.out.mono ?_;rintro e w' ⟨rfl,rfl⟩
  go_wp2_with fail
  refine(abQ _ _ _).mono ?_;rintro e w' ⟨rfl,rfl⟩
  go_wp2
  go_ret
  exact⟨I7 HC.out,rfl⟩
 .have HL2:((x.size:Int) !=(y.size:Int))=true:=by simp;omega
  have hcmp:af8 ((x.size:Int)-y.size)=wM (nv a) (nv b):=by
   rcases(show x.size<y.size\/y.size<x.size by omega)with h|h
   .rw[ad3 jb];rw[Hx.out,Hy.out]at h;rw[vY (Ui h)]
   .rw[ad4 jb];rw[Hx.out,Hy.out]at h;rw[vZ (Ui h)]
  have HC:=jx hcmp
  clear hcmp hlen
  go_enter Tryz.func176,Tryz.ntmps176
  go_wp2_with fail
  refine N1.out.mono ?_;rintro e w' ⟨rfl,rfl⟩
  go_wp2_with fail
  refine N2.out.mono ?_;rintro e w' ⟨rfl,rfl⟩
  go_wp2_with fail
  refine(aiV _ _).mono ?_;rintro e w' ⟨rfl,rfl⟩
  go_wp2
  go_ret
  exact⟨I7 HC.out,rfl⟩
end Go.Proofs.Ins
namespace Go.Proofs.Ins
theorem oN(q:Rat):(sg q=-1/\q<0)\/(sg q=0/\q=0)\/(sg q=1/\0<q):=by
 unfold sg;by_cases h:q=0
 .rw[ab h];exact .inr (.inl ⟨rfl,h⟩)
 .rw[ae h];by_cases h2:q<0
  .rw[ab h2];exact .inl ⟨rfl,h2⟩
  .rw[ae h2];exact .inr (.inr ⟨rfl,by grind⟩)
def abR{p q:Rat}(h:sg p<sg q):nC p q=-1:=by apply CG;rcases oN p with⟨e1,h1⟩|⟨e1,h1⟩|⟨e1,h1⟩<;>rcases oN q with⟨e2,h2⟩|⟨e2,h2⟩|⟨e2,h2⟩<;>first|omega|grind
def abS{p q:Rat}(h:sg q<sg p):nC p q=1:=by apply CJ;rcases oN p with⟨e1,h1⟩|⟨e1,h1⟩|⟨e1,h1⟩<;>rcases oN q with⟨e2,h2⟩|⟨e2,h2⟩|⟨e2,h2⟩<;>first|omega|grind
def aiX{p q:Rat}(h:sg p=sg q):rn p=rn q:=by
 rcases oN p with⟨e1,h1⟩|⟨e1,h1⟩|⟨e1,h1⟩<;>rcases oN q with⟨e2,h2⟩|⟨e2,h2⟩|⟨e2,h2⟩<;>first
  |omega
  |rw[VP.mpr h1,VP.mpr h2]
  |rw[O9.mpr kd,O9.mpr kd]
def af9{p q:Rat}(h:sg p=sg q):nC p q=if rn p=true then-(wM (nm p*q.den) (nm q*p.den))else wM (nm p*q.den) (nm q*p.den):=by
 have hn:=aiX h;have e1:=O8 p;have e2:=O8 q;have h1:=Rat.lt_iff p q;have h2:=Rat.lt_iff q p;rw[<-e1,<-e2,<-hn]at h1 h2;obtain⟨X,hX⟩:∃X,X=nm p*q.den:=⟨_,rfl⟩
 obtain⟨Y,hY⟩:∃Y,Y=nm q*p.den:=⟨_,rfl⟩
 have c1:(nm p:Int)*q.den=(X:Int):=by rw[hX,Int.natCast_mul]
 have c2:(nm q:Int)*p.den=(Y:Int):=by rw[hY,Int.natCast_mul]
 rw[<-hX,<-hY];have heq:X=Y->p=q:=λe=>by
  rw[Rat.eq_iff_mul_eq_mul,<-e1,<-e2,<-hn];unfold wL;split
  .rw[Int.neg_mul,Int.neg_mul,c1,c2,e]
  .rw[c1,c2,e]
 cases hr:rn p
 .rw[hr]at h1 h2;simp only[wL,cE,ib]at h1 h2⊢;rw[c1,c2]at h1 h2;rcases Nat.lt_trichotomy X Y with h3|h3|h3
  .rw[vY h3,CG (h1.mpr jb)]
  .rw[heq h3,Jb,h3,FZ]
  .rw[vZ h3,CJ (h2.mpr jb)]
 .rw[hr]at h1 h2;simp only[wL,fX,Int.neg_mul]at h1 h2⊢;rw[c1,c2]at h1 h2;rcases Nat.lt_trichotomy X Y with h3|h3|h3
  .rw[vY h3,CJ (h2.mpr jb)];rfl
  .rw[heq h3,Jb,h3,FZ];rfl
  .rw[vZ h3,CG (h1.mpr jb)]
end Go.Proofs.Ins
namespace Go.Proofs.Ins
open Go.RowKit
structure R3 where
 n:Bool
 s:ByteArray
 d:ByteArray
instance:Inhabited R3:=⟨⟨false,⟨#[]⟩,⟨#[]⟩⟩⟩
def R3.c(r:R3):List Value:=[.bool r.n,.string r.s,.string r.d]
def R3.q(r:R3):Rat:=rq r.n r.s r.d
def R3.small(r:R3):Prop:=r.s.size<=24/\r.d.size<=24
instance (r:R3):Decidable r.small:=by unfold R3.small;infer_instance
def R3.fits(r:R3)(k:Nat):Prop:=r.s.size<=k/\r.d.size<=k
def sO(q:Rat):R3:=⟨rn q,rs q,rd q⟩
theorem wO(q:Rat):(sO q).q=q:=Hq q
def Ee{q:Rat}{k:Nat}(h:Sm k q):(sO q).fits k:=⟨h.rs,h.rd⟩
structure V8 where
 p:Int
 a:R3
 k:R3
 x:Bool
instance:Inhabited V8:=⟨⟨0,default,default,false⟩⟩
def V8.c(v:V8):List Value:=[.int .i64 v.p,.bool v.a.n,.string v.a.s,.string v.a.d,.bool v.k.n,.string v.k.s,.string v.k.d,.bool v.x]
def aBv(w:World)(T:TypeId)(n sz:Nat)(F:Nat->List Value)(e:Ending)(w':World):Prop:=
 ∃v,e=.returned v/\ng w' w.heap.size T sz v n F/\Below w.heap.size w w'
def c16(L:Nat->Nat)(i:Nat):List Value:=[.int .u16 (L i:Int)]
def an9:(Tryz.prog.info? 3).map (λi=>(i.zero.map (λz=>z.cells.size),i.size,i.bytes))=some (some 1,1,8):=by kernel_rfl
end Go.Proofs.Ins
namespace Go.Proofs.Ins
open Go Go.RowKit Go.ChangeShapes Go.WideShapes Go.Deep
section
variable {H:Type} {enc:TypeId×Value→H} {P:Program} {W:World} {sp:Nat→Bool} {held:Bool}
def Light(P:Program)(t:TypeId)(d:DataW H):Prop:=∀n∈d.weights P t,n<=140737488351232
def Bo{ts:List TypeId}{ds:List (DataW H)}(h:(DataW.weightsEach P ts ds).all (·<=reachBytes)=true){j:Nat}{t:TypeId}{d:DataW H}(ht:ts[j]?=some t)(hd:ds[j]?=some d):Light P t d:=λn hn=>by have:=eA.1 h _ (DataW.weights_mem_each ht hd n hn);exact cI this
def Dw{e:TypeId}:∀{l:List (DataW H)}{d:DataW H},d∈l->∀n∈d.weights P e,n∈DataW.weightsAll P e l
 |d'::r,d,hd,n,hn=>by
  simp only[DataW.weightsAll,bO];rcases bw.1 hd with rfl|h
  .exact Or.inl hn
  .exact Or.inr (Dw h n hn)
def abT{t e:TypeId}{l sp:List (DataW H)}{d:DataW H}(ht:P.underlying t=some (.slice e))(h:Light P t (.slice l sp))(hd:d∈l):Light P e d:=λn hn=>h n (by simp only[DataW.weights,ht,bw,bO];exact .inr (.inl (Dw hd n hn)))
def aga{t e:TypeId}{l sp:List (DataW H)}(ht:P.underlying t=some (.slice e))(h:Light P t (.slice l sp))(he:0<P.bytesOf e):l.length<=140737488351232:=by have:=h ((l.length+sp.length)*P.bytesOf e) (by simp[DataW.weights,ht]);have h2:=ft (l.length+sp.length) he;omega
def KF{t e:TypeId}{fuel k:Nat}{cs:List Value}{x:DataW H×List MemPlace}(ht:P.underlying t=some (.slice e))(hk:P.cellsOf e=k)(hk0:0<k)(he:0<P.bytesOf e)(h:DataW.trod enc P W 0 sp held fuel t cs=some x)(hL:Light P t x.1):
  ∃(a:Option Addr) (len cap:Nat) (C:Nat->List Value),cs=[.slice a len cap]/\len<=140737488351232/\afZ W a len k C/\∀i,i<len->(C i).length=k/\∃n y,DataW.trod enc P W 0 sp held n e (C i)=some y/\Light P e y.1:=by
 rcases open_slice ht h with⟨rfl,-⟩|⟨a,len,cap,m,n,D,Pl,rfl,-,hl,hm,hmm,rfl,hx⟩
 .exact⟨none,0,0,λ_=>[],rfl,jb,.inl rfl,λi hi=>jb⟩
 .have hlm:len<=m:=by rw[hmm];split<;>omega
  obtain⟨C,hC⟩:=choose_lt (α:=List Value) (p:=λi c=>W.cells? 0 (a.add (i*P.cellsOf e)) (P.cellsOf e)=some c/\DataW.trod enc P W 0 sp held n e c=some (D i,Pl i)) (λi hi=>hx i hi)
  have hlen:=aga ht hL he
  rw[cg,gR]at hlen
  refine⟨some a,len,cap,C,rfl,hlen,?_,λi hi=>⟨?_,n,_,(hC i jb).2,abT ht hL (cP.2 ⟨i,by simpa using hi,rfl⟩)⟩⟩
  .rcases fR len with h0|h0
   .exact .inl h0
   .obtain⟨b,off,spot⟩:=a
    obtain⟨_,hlen,hget⟩:=World.cells?_some (hC 0 jb).1
    have h00:=hget 0 jb
    rw[gj jb]at h00
    have hspot:spot=none:=by simpa [Addr.add]using World.cell?_spot h00
    subst hspot
    have hadd:∀i j,((⟨b,off,none⟩:Addr).add (i*k)).add j=⟨b,off+i*k+j,none⟩:=λi j=>by unfold Addr.add;by_cases h1:i*k=0<;>by_cases h2:j=0<;>simp[h1,h2]
    refine .inr ⟨b,off,rfl,?_,λi j hi hj=>?_⟩
    .have:=block_lt_of_cell h00
     simpa [Addr.add]using this
    .obtain⟨_,_,hg⟩:=World.cells?_some (hC i jb).1
     have:=hg j jb
     rw[hk,hadd]at this
     exact this
  .obtain⟨_,hlen,_⟩:=World.cells?_some (hC i jb).1
   rw[hlen,hk]
end
section
variable {H:Type} {enc:TypeId×Value→H} {W:World} {sp:Nat→Bool} {held:Bool}
def rY{fuel:Nat}{cs:List Value}{x:DataW H×List MemPlace}(h:DataW.trod enc Tryz.prog W 0 sp held fuel 50 cs=some x):∃m:Nat,cs=[.int .u16 (m:Int)]/\m<=65535:=by
 obtain⟨n,rfl,-,hw⟩:=DataW.trod_int Tryz.underlying50 h;have hw2:0<=n/\n<=65535:=by simpa [Lit.wf,IntKind.min,IntKind.max,IntKind.signed,IntKind.bits]using hw
 exact⟨n.toNat,by rw[eE hw2.1],jb⟩
end
def afZ.congr{w:World}{a:Option Addr}{n sz:Nat}{F G:Nat->List Value}(h:afZ w a n sz F)(hg:∀i,i<n->F i=G i):afZ w a n sz G:=by
 rcases h with h|⟨b,off,ha,hl,hr⟩
 .exact .inl h
 .exact .inr ⟨b,off,ha,hl,λi j hi hj=>by rw[<-hg i hi];exact hr i j hi hj⟩
section
variable {H:Type} {enc:TypeId×Value→H} {W:World} {sp:Nat→Bool} {held:Bool}
def aiY{fuel:Nat}{cs:List Value}{x:DataW H×List MemPlace}(h:DataW.trod enc Tryz.prog W 0 sp held fuel 22 cs=some x)(hL:Light Tryz.prog 22 x.1):
  ∃a n cap,∃M:Nat->Nat,cs=[.slice a n cap]/\n<=140737488351232/\afZ W a n 1 (c16 M)/\∀i,i<n->M i<=65535:=by
 obtain⟨a,n,cap,C,rfl,hn,hs,hx⟩:=KF (k:=1) Tryz.underlying22 (by kernel_rfl) jb (cI (by kernel_rfl)) h hL
 obtain⟨M,hM⟩:=choose_lt (α:=Nat) (p:=λi m=>C i=[.int .u16 (m:Int)]/\m<=65535) (λi hi=>by obtain⟨_,n,y,h1,h2⟩:=hx i hi;exact rY h1)
 exact⟨a,n,cap,M,rfl,hn,hs.congr λi hi=>(hM i hi).1,λi hi=>(hM i hi).2⟩
def Ht{P:Program}(hl:laidOutB P=true){W W':World}(hb:Below W.heap.size W W'):∀{ts:List TypeId}{vs:List Value}{ds:List (DataW H)}{p:List MemPlace},
  (ts.all λt=>P.readableRec t&&decide (t<P.types.size))=true->DataW.TrodAll enc P W 0 (λ_=>true) true ts vs ds p->(∀x∈p,x.block<W.heap.size)->DataW.TrodAll enc P W' 0 (λb=>decide (b<W.heap.size)) true ts vs ds p
 |[],_,_,_,_,h,_=>by obtain⟨rfl,rfl,rfl⟩:=trodAll_nil h;exact h
 |t::ts,_,_,_,ht,h,hp=>by obtain⟨v,vs1,d,ds1,a,b,rfl,rfl,rfl,h1,h2⟩:=trodAll_cons h;simp only[cw,af,eQ]at ht;exact⟨a,b,Below.trod hl ht.1.1 ht.1.2 h1 hb (λx hx=>hp x (ic _ hx)),Ht hl hb ht.2 h2 (λx hx=>hp x (List.mem_append_right _ hx)),rfl⟩
end
def laidOut':laidOutB Tryz.prog=true:=by kernel_rfl
end Go.Proofs.Ins
