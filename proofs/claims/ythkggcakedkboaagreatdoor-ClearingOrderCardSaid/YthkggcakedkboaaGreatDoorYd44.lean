import Derived.Test.YthkggcakedkboaaGreatDoorYd43
set_option linter.all false
namespace Go.Proofs.Xe
open Go.RowKit Go.Proofs.Ins
def tI(n k i:Nat):Nat:=(i+n-k)%n
def oI(n k i:Nat):Nat:=(i+k)%n
section
variable {n k i:Nat}
def aoz(hk:k<n)(hi:i<n):tI n k i=if k<=i then i-k else i+n-k:=by
 unfold tI;split
 .rw[show i+n-k=(i-k)+n by omega,Nat.add_mod_right,de jb]
 .exact de jb
def aoA(hk:k<n)(hi:i<n):oI n k i=if i+k<n then i+k else i+k-n:=by
 unfold oI;split
 .exact de jb
 .rw[Nat.mod_eq_sub_mod jb,de jb]
def Ae(hn:0<n):tI n k i<n:=cL _ hn
def Fp(hn:0<n):oI n k i<n:=cL _ hn
def O9(hk:k<n)(hi:i<n):tI n k (oI n k i)=i:=by
 rw[aoz hk (Fp jb),aoA hk hi];by_cases h:i+k<n
 .rw[ab h];split<;>omega
 .rw[ae h];split<;>omega
def yI(hk:k<n)(hi:i<n):oI n k (tI n k i)=i:=by
 rw[aoA hk (Ae jb),aoz hk hi];by_cases h:k<=i
 .rw[ab h];split<;>omega
 .rw[ae h];split<;>omega
def ajZ(hk:k<n)(F:Nat->Rat):aB n (λi=>F (oI n k i))=aB n F:=by
 have h1:aB n (λi=>F (oI n k i))=aB n λi=>aB n λj=>if j=oI n k i then F j else 0:=aK λi hi=>by rw[iL (k:=oI n k i) (Fp jb) λj _ hne=>ae hne,ab rfl]
 rw[h1,wH];exact aK λj hj=>by rw[iL (k:=tI n k j) (Ae jb) λi hi hne=>ae λe=>hne (by rw[e,O9 hk hi]),ab (yI hk hj).symm]
end
def Vo(n k:Nat)(h:Int):Int:=if h=-1 then-1 else Int.ofNat (tI n k h.toNat)
def Bl(n k:Nat)(x:C5):C5:=⟨Vo n k x.h,x.r,x.a⟩
def tuE(n k:Nat)(e:wF):wF:=⟨e.m,e.c.map (Bl n k),e.a⟩
def tuL(n k:Nat)(l:Ins.Lg):Ins.Lg:=⟨Int.ofNat (tI n k l.e.toNat),l.k⟩
def tuD(n k:Nat)(d:uH):uH:=⟨d.w,d.l.map (tuL n k)⟩
def mY(k:Nat)(g:gW):gW:=⟨(List.range g.e.length).map λi=>tuE g.e.length k (ix g.e (oI g.e.length k i)),g.d.map (tuD g.e.length k)⟩
def mL(n k:Nat)(l:fA):fA:=(tI n k l.1,l.2)
def Vp{n k j:Nat}{h:Int}(hk:k<n)(hh:h=-1\/0<=h/\h<n)(hj:j<n):Vo n k h=(j:Int)↔h=(oI n k j:Nat):=by
 unfold Vo;rcases hh with rfl|⟨h0,h1⟩
 .rw[ab rfl];omega
 .rw[ae jb];obtain⟨a,rfl⟩:=cf h0;have ha:a<n:=jb;constructor
  .intro e;have e:tI n k a=j:=gd e;rw[<-e,yI hk ha]
  .intro e;have e:a=oI n k j:=gd e;show Int.ofNat (tI n k a)=Int.ofNat j;rw[e,O9 hk hj]
def jY(k:Nat)(g:gW):(mY k g).e.length=g.e.length:=by unfold mY;simp
def uf(k:Nat)(g:gW):(mY k g).d.length=g.d.length:=by unfold mY;simp
def rM{k i:Nat}{g:gW}(hi:i<g.e.length):ix (mY k g).e i=tuE g.e.length k (ix g.e (oI g.e.length k i)):=by
 have h1:ix ((List.range g.e.length).map λi=>tuE g.e.length k (ix g.e (oI g.e.length k i))) i=tuE g.e.length k (ix g.e (oI g.e.length k (ix (List.range g.e.length) i))):=rZ _ (by simpa using hi);have h2:ix (List.range g.e.length) i=i:=by rw[dV (by simpa using hi)];simp
 rw[h2]at h1;exact h1
def Pg{k d:Nat}{g:gW}(hd:d<g.d.length):ix (mY k g).d d=tuD g.e.length k (ix g.d d):=rZ _ hd
section
variable {n k:Nat}
def Pj(cs:List C5)(c:Nat):(ix (cs.map (Bl n k)) c).r=(ix cs c).r/\(ix (cs.map (Bl n k)) c).a=(ix cs c).a:=by
 by_cases h:c<cs.length
 .rw[rZ _ h];exact⟨rfl,rfl⟩
 .rw[UD (by simpa using h),UD jb];exact⟨rfl,rfl⟩
def RS{cs cs':List C5}(h:∀c,(ix cs c).r=(ix cs' c).r/\(ix cs c).a=(ix cs' c).a)(r:Nat):∀k,BJ cs r k=BJ cs' r k
 |0=>rfl
 |k+1=>by unfold BJ;rw[RS h r k,(h k).1,(h k).2]
def acV(e:wF):dH (tuE n k e)=dH e:=by
 have h:=Pj (n:=n) (k:=k) e.c;have h1:oD (e.c.map (Bl n k))=oD e.c:=by funext a;unfold oD lsA;rw[show(λi:Nat=>(ix (e.c.map (Bl n k)) i).a.q)=λi=>(ix e.c i).a.q from funext λi=>by rw[(h i).2]]
 have h2:UA (e.c.map (Bl n k)) e.c.length=UA e.c e.c.length:=by unfold UA;exact bL (λf=>(List.range 8).map f) (funext λr=>RS h r _)
 show eH.mk (UA (e.c.map (Bl n k)) (e.c.map (Bl n k)).length) (e.a.map (oD (e.c.map (Bl n k))))=_;rw[h1,bz,h2];rfl
end
section
variable {k:Nat} {g:gW} {x x' : Nat→Rat}
def axR{i:Nat}(hi:i<g.e.length):(aX (mY k g)).e i=(aX g).e (oI g.e.length k i):=by show dH (ix (mY k g).e i)=dH (ix g.e _);rw[rM hi,acV]
def axS{i:Nat}(hi:i<g.e.length):(aX (mY k g)).k i=(aX g).k (oI g.e.length k i):=by show(ix (mY k g).e i).c.length=(ix g.e _).c.length;rw[rM hi];exact bz ..
def av8{i c:Nat}(hi:i<g.e.length)(hc:c<(aX g).k (oI g.e.length k i)):(aX (mY k g)).h i c=Vo g.e.length k ((aX g).h (oI g.e.length k i) c):=by show(ix (ix (mY k g).e i).c c).h=_;rw[rM hi];show(ix ((ix g.e (oI g.e.length k i)).c.map (Bl g.e.length k)) c).h=_;rw[rZ _ hc];rfl
def aoB:(aX (mY k g)).ds=(aX g).ds.map λd=>(d.1,d.2.map (mL g.e.length k)):=by
 show(g.d.map (tuD g.e.length k)).map _=(g.d.map _).map _;rw[List.map_map,List.map_map];refine List.map_congr_left λd _=>?_;show(d.w.q,(d.l.map (tuL g.e.length k)).map yY)=(d.w.q,(d.l.map yY).map (mL g.e.length k))
 rw[List.map_map,List.map_map];rfl
variable (hk:k<g.e.length) (hx : ∀ i,i<g.e.length→x' i=x (oI g.e.length k i))
include hk
def asw{i c:Nat}(hi:i<g.e.length)(hg:Ik g.e.length (aX g)):(i,c)∈(aX (mY k g)).eX↔(oI g.e.length k i,c)∈(aX g).eX:=by
 unfold GL.eX;rw[aoB,fW];constructor
 .intro h;obtain⟨d,hd,hl⟩:=bX.mp h;obtain⟨l,hl,e⟩:=cH.mp hl;have h1:=pz hg hd hl;have e1:tI g.e.length k l.1=i:=bL Prod.fst e;have e2:l.2=c:=bL Prod.snd e;refine bX.mpr ⟨d,hd,?_⟩;rw[<-e1,yI hk h1,<-e2];exact hl
 .intro h;obtain⟨d,hd,hl⟩:=bX.mp h;refine bX.mpr ⟨d,hd,cH.mpr ⟨_,hl,?_⟩⟩;show(tI _ _ (oI _ _ i),c)=(i,c)
  rw[O9 hk hi]
include hx
def aj0{l:fA}(hl:l.1<g.e.length):gq (aX (mY k g)) x' (mL g.e.length k l)=gq (aX g) x l:=by have ht:tI g.e.length k l.1<g.e.length:=Ae jb;show rQ ((aX (mY k g)).e (tI _ _ l.1)) (x' (tI _ _ l.1)) l.2=rQ ((aX g).e l.1) (x l.1) l.2;rw[axR ht,hx _ ht,yI hk hl]
def aj1{W:Rat}{j:Nat}(hj:j<g.e.length):∀(t:List fA) (Q:Rat),(∀l∈t,l.1<g.e.length)->nO W (gq (aX (mY k g)) x') Q (t.map (mL g.e.length k)) j=nO W (gq (aX g) x) Q t (oI g.e.length k j)
 |[],_,_=>rfl
 |l::t,Q,h=>by
  have hl:=h l kc;have ih:=aj1 (W:=W) hj t (Q+gq (aX g) x l) λu hu=>h u (by simp[hu]);have e:=aj0 hk hx hl;show(if(mL g.e.length k l).1=j then _ else _)+nO W _ (Q+gq (aX (mY k g)) x' (mL g.e.length k l)) (t.map _) j=(if l.1=_ then _ else _)+nO W _ _ t _;rw[e,ih];have e2:(mL g.e.length k l).1=j↔l.1=oI g.e.length k j:=⟨λh=>by rw[<-h];exact(yI hk hl).symm,λh=>by show tI _ _ l.1=j;rw[h,O9 hk hj]⟩
  simp only[e2]
def av9(hg:Ik g.e.length (aX g)){d:Rat×List fA}(hd:d∈(aX g).ds){j:Nat}(hj:j<g.e.length):dG (aX (mY k g)) x' j (d.1,d.2.map (mL g.e.length k))=dG (aX g) x (oI g.e.length k j) d:=by
 have hl:=λl hl=>pz hg hd (l:=l) hl;have e1:aJ (d.2.map (mL g.e.length k)) (gq (aX (mY k g)) x')=aJ d.2 (gq (aX g) x):=by rw[acU];exact dP λl h=>aj0 hk hx (hl l h)
 have e2:=aj1 hk hx (W:=d.1) hj d.2 0 hl;have e3:Oq (aX (mY k g)) (d.1,d.2.map (mL g.e.length k))=(j:Int)↔Oq (aX g) d=(oI g.e.length k j:Nat):=by
  obtain⟨w,t⟩:=d;cases t with
  |nil=>show(-1:Int)=_↔(-1:Int)=_;omega
  |cons l t=>
   have h1:=hg.eX l (bX.mpr ⟨_,hd,by simp⟩)
   have h2:tI g.e.length k l.1<g.e.length:=Ae jb
   show(aX (mY k g)).h (tI _ _ l.1) l.2=_↔(aX g).h l.1 l.2=_
   rw[av8 h2 (by rw[yI hk h1.1];exact h1.2),yI hk h1.1]
   exact Vp hk (hg.hold _ _ h1.1 h1.2) hj
 unfold dG;dsimp only at e1 e2⊢;rw[e1,e2];simp only[e3]
def aoC(hg:Ik g.e.length (aX g)){j:Nat}(hj:j<g.e.length):gG g.e.length (aX (mY k g)) x' j=gG g.e.length (aX g) x (oI g.e.length k j):=by
 unfold gG;rw[aoB,acU];congr 1
 .rw[<-ajZ hk λi=>aB ((aX g).k i) λc=>if rX (aX g) (oI g.e.length k j) i c then gq (aX g) x (i,c)else 0];refine aK λi hi=>?_;rw[axS hi];refine aK λc hc=>?_;have ho:=Fp (n:=g.e.length) (k:=k) (i:=i) jb;have e1:gq (aX (mY k g)) x' (i,c)=gq (aX g) x (oI g.e.length k i,c):=by have:=aj0 hk hx (l:=(oI g.e.length k i,c)) ho;unfold mL at this;dsimp only at this;rw[O9 hk hi]at this;exact this
  have e2:rX (aX (mY k g)) j i c=rX (aX g) (oI g.e.length k j) (oI g.e.length k i) c:=by unfold rX;rw[av8 hi hc];have a1:=asw hk hi hg (c:=c);have a2:=Vp hk (hg.hold _ _ ho hc) hj;rw[Bool.eq_iff_iff];simp only[af,gj,beq_iff_eq,List.contains_eq_mem,decide_eq_false_iff_not,a1,a2]
  rw[e1,e2]
 .exact dP λd hd=>av9 hk hx hg hd hj
end
section
variable {k:Nat} {g:gW} {c x:Nat→Rat}
def Rw.tu(hk:k<g.e.length)(hg:Ik g.e.length (aX g))(h:Rw (n:=g.e.length) (g:=aX g) c x):Rw (n:=g.e.length) (g:=aX (mY k g)) (λi=>c (oI g.e.length k i)) λi=>x (oI g.e.length k i):=by
 have hp:0<g.e.length:=jb;refine⟨λi _=>h.nn _ (Fp hp),λj hj=>?_,λy hy hpo i hi=>?_⟩
 .rw[aoC hk (λ_ _=>rfl) hg hj];exact h.fix _ (Fp hp)
 .have:=h.grt (λj=>y (tI g.e.length k j)) (λj _=>hy _ (Ae hp)) (λj hj=>by have h1:=hpo _ (Ae hp (k:=k) (i:=j));rw[yI hk hj,aoC hk (x:=λj=>y (tI g.e.length k j)) (λi hi=>by rw[O9 hk hi]) hg (Ae hp),yI hk hj]at h1;exact h1) _ (Fp hp (k:=k) (i:=i))
  replace this:y (tI g.e.length k (oI g.e.length k i))<=x (oI g.e.length k i):=this;rw[O9 hk hi]at this;exact this
end
def QZ.tu{A n k:Nat}{cs:List C5}{a:gZ}(h:QZ A cs a):QZ A (cs.map (Bl n k)) a:=by have e:=Pj (n:=n) (k:=k) cs;have hl:(cs.map (Bl n k)).length=cs.length:=bz ..;exact⟨by rw[hl];exact h.nc,h.na,h.nt,h.nf,λi hi=>by rw[(e i).2];exact h.fc i jb,h.fp,λi=>by rw[(e i).2];exact h.c i,by rw[hl];exact h.p⟩
def OB.tu{A n k:Nat}{e:wF}(h:OB A e):OB A (tuE n k e):=by
 have e1:=Pj (n:=n) (k:=k) e.c;have hl:(e.c.map (Bl n k)).length=e.c.length:=bz ..;exact⟨by show(e.c.map (Bl n k)).length<=_;rw[hl];exact h.nc,h.na,λc hc=>by
  have hc:c<(e.c.map (Bl n k)).length:=hc;show∃r:Nat,r<8/\(ix (e.c.map (Bl n k)) c).r=_;rw[(e1 c).1];exact h.r c jb,λc hc=>by
  have hc:c<(e.c.map (Bl n k)).length:=hc;show(ix (e.c.map (Bl n k)) c).a.fits _;rw[(e1 c).2];exact h.fc c jb,λc=>by
  show FT A (ix (e.c.map (Bl n k)) c).a.q;rw[(e1 c).2];exact h.c c,λj hj=>(h.a j hj).tu⟩
def anD{n k:Nat}(hk:k<n){a b:Nat}{c d:Int}(ha:a<n)(hb:b<n)(h:tuL n k ⟨.ofNat a,c⟩=tuL n k ⟨.ofNat b,d⟩):a=b/\c=d:=by have h1:Int.ofNat (tI n k a)=Int.ofNat (tI n k b):=bL Lg.e h;have h1:=gd h1;have h2:c=d:=bL Lg.k h;exact⟨by rw[<-yI hk ha,h1,yI hk hb],h2⟩
def aj2{n k:Nat}(dl:List uH)(d m:Nat)(hd:d<dl.length):jZ (dl.map (tuD n k)) d m=(jZ dl d m).map (tuL n k):=by unfold jZ;rw[rZ _ hd,<-List.map_take,fW,List.map_append,List.map_flatMap];show _++(((ix dl d).l.map (tuL n k)).take m)=_;rw[<-List.map_take];rfl
def anE{k:Nat}{g:gW}(hk:k<g.e.length)(h:Jb g=0):Jb (mY k g)=0:=by
 have hz:=JW h;have hp:0<g.e.length:=jb;have hne:=hz.ne;have hE:∀i,i<g.e.length->Hr (ix g.e i)=0:=by
  unfold Jb at h;split at h
  .cases h
  split at h
  .next h1=>exact absurd h h1
  .next h1=>exact gJ (bj h1)
 have aoD:∀(e:wF) (i:Nat),EZ g.e.length i e->∀c,c<e.c.length->(ix (e.c.map (Bl g.e.length k)) c).h=Vo g.e.length k (ix e.c c).h:=λe i he c hc=>by rw[rZ _ hc];rfl
 have hr:∀{h:Int},h=-1\/0<=h/\h<g.e.length->Vo g.e.length k h=-1\/0<=Vo g.e.length k h/\Vo g.e.length k h<g.e.length:=λ{h} hh=>by
  unfold Vo;split
  .exact .inl rfl
  .have:=Ae (n:=g.e.length) (k:=k) (i:=h.toNat) hp;exact .inr ⟨iN _,by show((tI g.e.length k h.toNat:Nat):Int)<_;omega⟩
 unfold Jb;rw[jY,uf,ae (by have:=hz.nd;omega),ae,ae]
 .refine iU λd hd=>?_;obtain⟨l1,l2,l3⟩:=hz.l d hd;unfold PI;rw[Pg hd];have hlen:(tuD g.e.length k (ix g.d d)).l.length=(ix g.d d).l.length:=bz ..;have hw:(tuD g.e.length k (ix g.d d)).w=(ix g.d d).w:=rfl;rw[hlen,hw,ae jb,ae (DF l2)];refine iU λm hm=>?_;have hx:ix (tuD g.e.length k (ix g.d d)).l m=tuL g.e.length k (ix (ix g.d d).l m):=rZ _ hm;have hx0:ix (tuD g.e.length k (ix g.d d)).l 0=tuL g.e.length k (ix (ix g.d d).l 0):=rZ _ jb;have hh:∀m,m<(ix g.d d).l.length->holdL (mY k g).e (tuL g.e.length k (ix (ix g.d d).l m))=Vo g.e.length k (holdL g.e (ix (ix g.d d).l m)):=λm hm=>by obtain⟨e,j,e1,h1,h2,-⟩:=l3 m hm;have ht:tI g.e.length k e<g.e.length:=Ae hp;rw[e1];show(ix (ix (mY k g).e (tI g.e.length k e)).c j).h=Vo _ _ (ix (ix g.e e).c j).h;rw[rM ht,yI hk h1];exact aoD _ _ (hz.e e h1) j h2
  obtain⟨e,j,e1,h1,h2,h3,h4⟩:=l3 m hm;have ht:tI g.e.length k e<g.e.length:=Ae hp;unfold Zx;dsimp only;rw[Pg hd,hx,hx0,jY,hh m hm,hh 0 jb,h4];rw[ae,ae,ae (λh=>h rfl)]
  .show¬CQ (jZ (g.d.map (tuD g.e.length k)) d m) _=true;rw[aj2 _ _ _ hd];intro hc;unfold CQ at hc h3;obtain⟨y,hy,e2⟩:=fq.mp hc;obtain⟨z,hzm,rfl⟩:=cH.mp hy;rw[List.any_eq_false]at h3;refine h3 z hzm ?_;have hzv:∃a b:Nat,z=⟨(a:Int),(b:Int)⟩/\a<g.e.length:=by
    rcases bO.mp hzm with h|h
    .obtain⟨d',hd',hl⟩:=bX.mp h;obtain⟨q,hq,rfl⟩:=aL hl;have hd'':=di hd';obtain⟨w,hw,rfl⟩:=aL hd'';rw[<-dV hw]at hq;obtain⟨a,b,e3,h5,-⟩:=(hz.l w hw).2.2 q hq;refine⟨a,b,?_,h5⟩;rw[<-e3,dV (l:=(ix g.d w).l) hq];simp only[dV hw]
    .have h:=di h;obtain⟨q,hq,rfl⟩:=aL h;obtain⟨a,b,e3,h5,-⟩:=l3 q hq;exact⟨a,b,by rw[<-e3,dV hq],h5⟩
   obtain⟨a,b,rfl,ha⟩:=hzv;rw[e1]at e2⊢;have e3:tuL g.e.length k ⟨.ofNat a,.ofNat b⟩=tuL g.e.length k ⟨.ofNat e,.ofNat j⟩:=by rw[af,beq_iff_eq,beq_iff_eq]at e2;exact ai6 e2.1 e2.2
   obtain⟨e4,e5⟩:=anD hk ha h1 e3;have e5:=gd e5;subst e4 e5;simp
  .rw[e1];show¬(Int.ofNat (tI g.e.length k e)<0\/(g.e.length:Int)<=Int.ofNat (tI g.e.length k e)\/(j:Int)<0\/((ix (mY k g).e (tI g.e.length k e)).c.length:Int)<=(j:Int));rw[rM ht,yI hk h1];have:(tuE g.e.length k (ix g.e e)).c.length=(ix g.e e).c.length:=bz ..;rw[this];have:Int.ofNat (tI g.e.length k e)=((tI g.e.length k e:Nat):Int):=rfl;omega
 .refine λhn=>hn (iU λi hi=>?_);have ho:=Fp (n:=g.e.length) (k:=k) (i:=i) hp;rw[rM hi];refine iU λc hc=>?_;have hc:c<(ix g.e (oI g.e.length k i)).c.length:=by have:(tuE g.e.length k (ix g.e (oI g.e.length k i))).c.length=(ix g.e (oI g.e.length k i)).c.length:=bz ..;omega
  have he:=hz.e _ ho;have h1:=(he.c c hc).2.2.2;unfold TN;rw[jY,rM hi];show(if _<=(ix ((ix g.e (oI g.e.length k i)).c.map (Bl g.e.length k)) c).h\/(ix ((ix g.e (oI g.e.length k i)).c.map (Bl g.e.length k)) c).h=_ then _ else _)=(0:Int)
  rw[aoD _ _ he c hc,ae];have h2:=hr (h:=(ix (ix g.e (oI g.e.length k i)).c c).h) jb;rintro(h3|h3)
  .omega
  .have:=(Vp hk jb hi).mp h3;omega
 .refine λhn=>hn (iU λi hi=>?_);have ho:=Fp (n:=g.e.length) (k:=k) (i:=i) hp;have h0:=hE _ ho;have he:=hz.e _ ho;rw[rM hi];generalize ix g.e (oI g.e.length k i)=e at*;have hl:(e.c.map (Bl g.e.length k)).length=e.c.length:=bz ..;unfold Hr at h0⊢;show(if 24<(e.c.map (Bl g.e.length k)).length\/12<e.a.length then(2:Int)else if sg e.m.q<0 then 7 else if Ey (λi=>J8 (ix (e.c.map (Bl g.e.length k)) i)) (e.c.map (Bl g.e.length k)).length≠0 then Ey (λi=>J8 (ix (e.c.map (Bl g.e.length k)) i)) (e.c.map (Bl g.e.length k)).length else Ey (λj=>TM (e.c.map (Bl g.e.length k)).length (yQ e.a j) (ix e.a j)) e.a.length)=0;rw[hl];split at h0
  .cases h0
  next a1=>
  split at h0
  .cases h0
  next a2=>
  split at h0
  .next a3=>exact absurd h0 a3
  next a3=>
  rw[ae a1,ae a2,ae,h0];refine λhn=>hn (iU λc hc=>?_);have a4:=gJ (bj a3) c hc;have h1:=(he.c c hc)
  rw[rZ _ hc];have h2:=hr (h:=(ix e.c c).h) jb;unfold J8 at a4⊢;show(if Vo g.e.length k (ix e.c c).h< -1\/8<=Vo g.e.length k (ix e.c c).h then(19:Int)else if(ix e.c c).r<0\/7<(ix e.c c).r then 1 else if sg (ix e.c c).a.q<0 then 7 else 0)=0;rw[ae jb];split at a4
  .cases a4
  .exact a4
def kD.tu{k:Nat}{g:gW}(hk:k<g.e.length)(h:kD g):kD (mY k g):=by
 have hp:0<g.e.length:=jb;have hz:=JW h.z;have ho:=λi=>Fp (n:=g.e.length) (k:=k) (i:=i) hp;have hl:∀i,i<g.e.length->dH (ix (mY k g).e i)=dH (ix g.e (oI g.e.length k i)):=λi hi=>by rw[rM hi,acV]
 have hkE:∀i,i<g.e.length->kE (mY k g).e i=kE g.e (oI g.e.length k i):=λi hi=>by unfold kE;rw[rM hi];exact bz ..
 have hc:∀i,i<g.e.length->∀c,(ix (ix (mY k g).e i).c c).a=(ix (ix g.e (oI g.e.length k i)).c c).a:=λi hi c=>by rw[rM hi];exact(Pj _ c).2
 have hm:∀i,i<g.e.length->(ix (mY k g).e i).m=(ix g.e (oI g.e.length k i)).m:=λi hi=>by rw[rM hi];rfl
 have hdl:∀d,d<g.d.length->(ix (mY k g).d d).l.length=(ix g.d d).l.length/\(ix (mY k g).d d).w=(ix g.d d).w:=λd hd=>by rw[Pg hd];exact⟨bz ..,rfl⟩
 refine⟨by rw[jY];exact h.n,⟨by rw[jY];exact h.bld.n,by rw[uf];exact h.bld.d,λi hi=>?_,λd hd=>?_,λd hd m hm=>?_⟩,⟨λi hi=>?_,λd hd=>?_,by rw[jY];exact h.sm.le,by rw[uf];exact h.sm.ld,λd hd=>?_⟩,anE hk h.z,λi hi=>?_,λi hi=>?_,λi hi=>?_,λi hi=>?_,λi hi c=>?_,λi hi c hc'=>?_,λi hi=>?_,by rw[uf];exact h.d3,λd hd=>?_⟩
 .rw[jY]at hi;rw[rM hi];exact(h.bld.e _ (ho i)).tu
 .rw[uf]at hd;rw[(hdl d hd).1];exact h.bld.l d hd
 .rw[uf]at hd;rw[(hdl d hd).1]at hm;obtain⟨e,c,e1,h1,h2⟩:=h.bld.lg d hd m hm;refine⟨tI g.e.length k e,c,?_,by rw[jY];exact Ae hp,?_⟩
  .rw[Pg hd];show ix ((ix g.d d).l.map _) m=_;rw[rZ _ hm,e1];rfl
  .rw[rM (Ae hp),yI hk h1];show _<((ix g.e e).c.map (Bl g.e.length k)).length;rw[bz];exact h2
 .rw[jY]at hi;rw[rM hi];have:=h.sm.e _ (ho i);have e1:=Pj (n:=g.e.length) (k:=k) (ix g.e (oI g.e.length k i)).c;have hl':((ix g.e (oI g.e.length k i)).c.map (Bl g.e.length k)).length=(ix g.e (oI g.e.length k i)).c.length:=bz ..;refine⟨this.m,λc hc=>?_,this.a,?_,this.la,this.lt,this.lp⟩
  .have hc:c<((ix g.e (oI g.e.length k i)).c.map (Bl g.e.length k)).length:=hc;show(ix ((ix g.e (oI g.e.length k i)).c.map (Bl g.e.length k)) c).a.fits _;rw[(e1 c).2];exact this.c c jb
  .show((ix g.e (oI g.e.length k i)).c.map (Bl g.e.length k)).length<=_;rw[hl'];exact this.lc
 .rw[uf]at hd;rw[(hdl d hd).2];exact h.sm.w d hd
 .rw[uf]at hd;rw[(hdl d hd).1];exact h.sm.ll d hd
 .rw[jY]at hi;rw[hkE i hi];exact h.k6 _ (ho i)
 .rw[jY]at hi;rw[hkE i hi,hl i hi];exact h.ed _ (ho i)
 .rw[jY]at hi;rw[hkE i hi,hl i hi];exact h.eb _ (ho i)
 .rw[jY]at hi;rw[hl i hi];exact h.er _ (ho i)
 .rw[jY]at hi;rw[hc i hi];exact h.cap _ (ho i) c
 .rw[jY]at hi;rw[hkE i hi]at hc';rw[rM hi];show(ix ((ix g.e (oI g.e.length k i)).c.map (Bl g.e.length k)) c).h=_\/∃hh:Nat,(ix ((ix g.e (oI g.e.length k i)).c.map (Bl g.e.length k)) c).h=_/\hh<(mY k g).e.length;rw[rZ _ hc',jY];rcases h.hold _ (ho i) c hc' with h1|⟨hh,h1,h2⟩
  .left;show Vo _ _ _=_;rw[h1];rfl
  .right;refine⟨tI g.e.length k hh,?_,Ae hp⟩;show Vo _ _ _=_;rw[h1];unfold Vo;rw[ae (by show¬(hh:Int)=-1;omega)];rfl
 .rw[jY]at hi;rw[hm i hi];exact h.m _ (ho i)
 .rw[uf]at hd;rw[(hdl d hd).1,(hdl d hd).2];exact h.d d hd
def afi{p:Nat->Prop}{σ0 σ:St}{e n ty bytes:Nat}{v:B}{G:Nat->List B}{K:V->St->Prop}(hF:Fr σ0 σ)(hl:bf p σ.h e v n G)(he:0<e)(h3:n*bytes<=140737488355328)(h4:n<=1073741824)
  (h:Fr σ0 σ->∀cv σ',kZ σ'.h cv n G e ty σ.aj σ'.aj->Fr σ σ'->K (.c cv) σ'):agX (adQ ty e bytes (.c .aV) (.c v) σ) K:=by
 have h0:kZ σ.h .aV 0 G e ty σ.aj σ.aj:=.inl ⟨rfl,rfl⟩
 rcases hl with⟨rfl,rfl⟩|⟨b,o,c,rfl,-,hld⟩
 .exact h hF .aV σ h0 (Fr.refl hF.wf)
 .by_cases hn:n=0
  .subst hn
   exact h hF .aV σ h0 (Fr.refl hF.wf)
  .obtain⟨k,k1,k2,k3,k4,k5⟩:=Ja jb hld
   rw[abl _ _ _ _ _ _ _ _ _ jb,k1]
   dsimp only
   rw[k2,k3,k4,k5,Wp]
   simp only[cW,cj]
   rw[Ny σ jb he h3 h4]
   exact h hF _ _ (.inr ⟨jb,σ.aj,rfl,aA _ _ _,jp,bN _⟩) ((Fr.refl hF.wf).new _)
def aj3{a k n:Nat}(ha:a<n)(hk:k<n)(hn:n<=8):∃z:Int,nJ .sub (.c (.int .i64 (.ofNat a))) (.c (.int .i64 (.ofNat k)))=some (.c (.int .i64 z))/\nJ .add (.c (.int .i64 z)) (.c (.int .i64 (.ofNat n)))=some (.c (.int .i64 (.ofNat (a+n-k)))):=by
 refine⟨Int.ofNat a-Int.ofNat k,?_,?_⟩
 .show mkI .i64 (Int.ofNat a-Int.ofNat k)=_;cases hz:Int.ofNat a-Int.ofNat k with
  |ofNat m=>exact Ho kd
  |negSucc m=>
   unfold mkI
   rw[afB]
   show(bif Nat.ble m 9223372036854775807 then _ else _)=_
   rw[uo kd];rfl
 .show mkI .i64 (Int.ofNat a-Int.ofNat k+Int.ofNat n)=_;rw[show Int.ofNat a-Int.ofNat k+Int.ofNat n=Int.ofNat (a+n-k) by grind];exact Ho jb
def YC(n k:Nat)(cs:List C5)(c:Nat):Nat->List B:=λj=>Zz (if j<c then Bl n k (ix cs j)else ix cs j)
section
variable {n k m c:Nat} (cs:List C5)
def asx(hc:c<m):zk (bD m (YC n k cs c)) (c*5) 1 false=some (.c (.int .i64 (ix cs c).h)):=by have:=wU (e:=5) (k:=0) (m:=1) (G:=YC n k cs c) false (λ_=>rfl) hc jj jj;rw[cB]at this;rw[this];unfold YC;rw[ae (Nat.lt_irrefl _)];rfl
def asy(hc:c<m){x:Int}(hx:Vo n k (ix cs c).h=x):xQ (bD m (YC n k cs c)) (c*5) [.int .i64 x]=some (bD m (YC n k cs (c+1))):=by
 have:=yN (e:=5) (k:=0) (vs:=[.int .i64 x]) (n:=m) (i:=c) (G:=YC n k cs c) (λ_=>rfl) hc kc;rw[cB]at this;rw[this];have e:YC n k cs c c=Zz (ix cs c):=by unfold YC;rw[ae (Nat.lt_irrefl _)]
 rw[e];show some (bD m _)=some _;congr 1;refine bF λj hj=>?_;unfold iT YC;by_cases e:j=c
 .subst e;rw[ab rfl,ab (bN _),<-hx];rfl
 .rw[ae e];by_cases h:j<c
  .rw[ab h,ab jb]
  .rw[ae h,ae jb]
def aj6(h:Vo n k (ix cs c).h=(ix cs c).h):YC n k cs (c+1)=YC n k cs c:=funext λj=>by
 unfold YC;by_cases e:j=c
 .subst e;rw[ab (bN _),ae (Nat.lt_irrefl _)];show Zz ⟨Vo n k _,_,_⟩=_;rw[h]
 .by_cases h:j<c
  .rw[ab h,ab jb]
  .rw[ae h,ae jb]
end
def kZ.turn{p:Nat->Prop}{h:Tr Bk}{v:B}{n k ty lo hi:Nat}{cs:List C5}(ho:kZ h v cs.length (YC n k cs cs.length) 5 ty lo hi)(hp:∀b,lo<=b->b<hi->p b):qC p h v (cs.map (Bl n k)):=by have:=ho.hlp (p:=p) (λ_=>rfl) jj (λ_ _=>rfl) hp;unfold qC;rw[bz];exact this.congr λj hj=>by unfold YC;rw[ab hj,rZ _ hj]
def tlF(n k:Nat)(l:List Ins.Lg):Nat->List B:=λj=>J9 (tuL n k (ix l j))
def kZ.awc{p:Nat->Prop}{h:Tr Bk}{v:B}{n k ty lo hi:Nat}{l:List Ins.Lg}(ho:kZ h v l.length (tlF n k l) 2 ty lo hi)(hp:∀b,lo<=b->b<hi->p b):zI p h v (l.map (tuL n k)):=by have:=ho.hlp (p:=p) (λ_=>rfl) jj (λ_ _=>rfl) hp;unfold zI;rw[bz];exact this.congr λj hj=>by unfold tlF;rw[rZ _ hj]
def RC(el:List wF)(C:Nat->B)(p:Nat->Prop)(h:Tr Bk)(j:Nat):Prop:=qC p h (C j) (ix el j).c
def cT(el:List wF)(C A:Nat->B):Nat->List B:=λj=>[.bool (ix el j).m.n,.str (ix el j).m.s,.str (ix el j).m.d,C j,A j]
def RL(dl:List uH)(L:Nat->B)(p:Nat->Prop)(h:Tr Bk)(j:Nat):Prop:=zI p h (L j) (ix dl j).l
def lT(dl:List uH)(L:Nat->B):Nat->List B:=λj=>[.bool (ix dl j).w.n,.str (ix dl j).w.s,.str (ix dl j).w.d,L j]
def afj(el:List wF)(C:Nat->B)(j:Nat):QK (RC el C) j:=λ_ _ _ _ hp hk hq=>bf.keep hp hk hq
def anF(dl:List uH)(L:Nat->B)(j:Nat):QK (RL dl L) j:=λ_ _ _ _ hp hk hq=>bf.keep hp hk hq
section
variable {h h' h1:Tr Bk} {v x:B} {n ty lo hi hi1 nx n' : Nat} {C A L:Nat→B} {el:List wF} {dl:List uH}
def NL.aoE(ho:NL (RC el C) h v n (cT el C A) 5 ty lo hi)(hx:qC (λb=>hi<=b/\b<hi1) h1 x (ix el n).c)(hh:∀b,lo<=b->b<hi->h1 b=h b)(h2:hi<=hi1)(h3:hi1<=nx)(h4:nx<n')(h5:lo<=hi){cells:List B}(hc:cells=bD n (cT el C A)++[.bool (ix el n).m.n,.str (ix el n).m.s,.str (ix el n).m.d,x,A n])
  (hb:h' nx=some ⟨cells,some (5,ty)⟩) (hk:∀b,lo<=b->b<hi1->(∀c m k,v=.sl c 0 m k->b≠c)->h' b=h1 b):NL (RC el (aO C n x)) h' (.sl nx 0 (n+1) .opn) (n+1) (cT el (aO C n x) A) 5 ty lo n':=by
 have hg:∀j,j<n->cT el C A j=cT el (aO C n x) A j:=λj hj=>by unfold cT;rw[aP _ _ _ _ jb]
 have ho':NL (RC el (aO C n x)) h v n (cT el (aO C n x) A) 5 ty lo hi:=NL.congr ho (λj hj p h hq=>by unfold RC;rw[aP _ _ _ _ jb];exact hq) hg
 refine NL.push ho' (λj _=>afj el _ j) (hi1:=hi1) (h1:=h1) (x:=[.bool (ix el n).m.n,.str (ix el n).m.s,.str (ix el n).m.d,x,A n]) (by unfold RC;rw[aN];exact hx) hh h2 h3 h4 h5 ?_ hb hk (λ_ _=>rfl) (by unfold cT;rw[aN])
 rw[hc,bF hg]
def NL.aoF(ho:NL (RL dl L) h v n (lT dl L) 4 ty lo hi)(hx:zI (λb=>hi<=b/\b<hi1) h1 x (ix dl n).l)(hh:∀b,lo<=b->b<hi->h1 b=h b)(h2:hi<=hi1)(h3:hi1<=nx)(h4:nx<n')(h5:lo<=hi){cells:List B}(hc:cells=bD n (lT dl L)++[.bool (ix dl n).w.n,.str (ix dl n).w.s,.str (ix dl n).w.d,x])
  (hb:h' nx=some ⟨cells,some (4,ty)⟩) (hk:∀b,lo<=b->b<hi1->(∀c m k,v=.sl c 0 m k->b≠c)->h' b=h1 b):NL (RL dl (aO L n x)) h' (.sl nx 0 (n+1) .opn) (n+1) (lT dl (aO L n x)) 4 ty lo n':=by
 have hg:∀j,j<n->lT dl L j=lT dl (aO L n x) j:=λj hj=>by unfold lT;rw[aP _ _ _ _ jb]
 have ho':NL (RL dl (aO L n x)) h v n (lT dl (aO L n x)) 4 ty lo hi:=NL.congr ho (λj hj p h hq=>by unfold RL;rw[aP _ _ _ _ jb];exact hq) hg
 refine NL.push ho' (λj _=>anF dl _ j) (hi1:=hi1) (h1:=h1) (x:=[.bool (ix dl n).w.n,.str (ix dl n).w.s,.str (ix dl n).w.d,x]) (by unfold RL;rw[aN];exact hx) hh h2 h3 h4 h5 ?_ hb hk (λ_ _=>rfl) (by unfold lT;rw[aN])
 rw[hc,bF hg]
def NL.axT(hn:el.length=n)(ho:NL (RC el C) h v n (cT el C A) 5 ty lo hi){p q:Nat->Prop}(hA:∀j,j<el.length->jd q h (A j) (ix el j).a)(hp:∀b,lo<=b->b<hi->p b)(hq:∀b,q b->p b):Bf p h v el:=by subst hn;refine⟨C,A,kZ.hlp (p:=p) ho.own (λ_=>rfl) jj (λj hj=>?_) hp,λj hj=>⟨bf.keep (ho.el (λj _=>afj el C j) hj) (λ_ _=>rfl) λb hb=>hp b hb.1 hb.2,(hA j hj).keep (λ_ _=>rfl) hq⟩⟩;have hk:(C j).kn=true:=bf.kn (ho.el (λj _=>afj el C j) hj);have hk2:=(hA j hj).kn;simp only[cG,dC,hk,hk2,vT,Ai,cW]
def NL.awd(hn:dl.length=n)(ho:NL (RL dl L) h v n (lT dl L) 4 ty lo hi){p:Nat->Prop}(hp:∀b,lo<=b->b<hi->p b):ku p h v dl:=by subst hn;refine⟨L,kZ.hlp (p:=p) ho.own (λ_=>rfl) jj (λj hj=>?_) hp,λj hj=>bf.keep (ho.el (λj _=>anF dl L j) hj) (λ_ _=>rfl) λb hb=>hp b hb.1 hb.2⟩;have hk:(L j).kn=true:=bf.kn (ho.el (λj _=>anF dl L j) hj);simp only[cG,dC,hk,vT,Ai,cW]
end
end Go.Proofs.Xe
