import Derived.Test.YtchhojplceoifaaGreatDoorYc29
set_option linter.all false
set_option maxRecDepth 100000
set_option maxHeartbeats 8000000
namespace Go.Proofs.Xe
open Go.RowKit Go.Proofs.Ins
def apM(g:gB)(i:Nat):Rat:=(ix g.e i).m.q
def Y5(g:gB)(i c:Nat):Int:=(ix (ix g.e i).c c).h
def apR(g:gB)(x:Nat->Rat)(i c:Nat):Rat:=yj (aY g) x (i,c)
def apN(g:gB)(x:Nat->Rat)(i c:Nat):Rat:=Jz (aY g) x (i,c)
abbrev asG(g:gB)(x:Nat->Rat)(i:Nat):Nat->Rat:=apA (apM g) (kE g.e) (Y5 g) (apR g x) (apN g x) i
abbrev ai3(g:gB)(x:Nat->Rat)(i c:Nat):Nat->Rat:=VW (apM g) (kE g.e) (Y5 g) (apR g x) (apN g x) i c
structure asH(D:Nat)(g:gB)(x:Nat->Rat):Prop where
 s:avT D g x
 r:∀i,i<g.e.length->∀c,c<kE g.e i->Zk D 5000 (yj (aY g) x (i,c))
 m:∀i,i<g.e.length->(ix g.e i).m.fits 1000000/\Zk D 1 (ix g.e i).m.q
 h:∀i,i<g.e.length->∀c,c<kE g.e i->(ix (ix g.e i).c c).h=.negSucc 0\/∃hh:Nat,(ix (ix g.e i).c c).h=.ofNat hh/\hh<g.e.length
def Vm:40000000000<=256^uK:=aw (by decide:40000000000<=256^5) (bB jj jj)
def ani{σ:St}(hW:WF σ){sb mb:Nat}{g:gB}{x:Nat->Rat}(hs:DU (Lt σ.aj) σ.h sb g)(hb:σ.h mb=some ⟨bY g.e.length x,none⟩){D:Nat}(hA:asH D g x):
  aC EN 103 [.c (.ptr sb 0),.c (.sl mb 0 g.e.length (.ex g.e.length))] σ λr σ'=>Qd σ σ' r g.e.length (asG g x g.e.length)/\Fr σ σ':=by
 refine aO (kN.o _ _) kN.h ?_
 unfold kN
 dsimp only
 have hN:=hA.s
 have hn:=hN.n
 simp(disch:=try exact jz) only[go_sem,z3]
 refine(Yd hW hs hb hN).mono ?_
 rintro r σ2 ⟨⟨cm,G,Dv,Rf,Nt,Su,Re,Fu,rfl,h1,h2,h3,h4,h5,h6,h7,h8⟩,hf2⟩
 obtain⟨⟨ev,Y4,lv,bv,hsb,hg,-,-⟩,hsl⟩:=hs
 have aiX:=hf2.get hW hsb
 have hle2:=hf2.le
 have k1:=aZ.kn h1
 have k2:=h2.kn
 have k3:=h3.kn
 have k4:=h4.kn
 have k5:=h5.kn
 have k6:=aZ.kn h6
 have k7:=aZ.kn h7
 have k8:=aZ.kn h8
 have Ye:=hg.e.len
 have hek:=hg.e.kn
 have hdk:=hg.d.kn
 have hsl:sb<σ.aj:=hsl
 have JE:=Fr.refl hf2.wf
 have hu:=Vm
 have hRN:∀i,i<g.e.length->∀c,c<kE g.e i->Zk D 5000 (apR g x i c)/\Zk D 5001 (apN g x i c):=λi hi c hc=>by have h1:=hA.r i hi c hc;have h2:=(hN.q i hi c hc).2;exact⟨h1,Zk.mono (Zk.sub h2 h1) jb⟩
 have hmZ:∀i,i<g.e.length->Zk D 1 (apM g i):=λi hi=>(hA.m i hi).2
 simp(disch:=try exact jz) only[go_sem,z3,k1,k2,k3,k4,k5,k6,k7,k8,ak aiX,Ye,hek,hdk]
 refine aF (λq tm σ'=>∃i,q=g.e.length-i/\i<=g.e.length/\Tr.ah tm 5=.c (.ptr σ2.aj 0)/\Tr.ah tm 6=.c (.sl (σ2.aj+1) 0 g.e.length (.ex g.e.length))/\Tr.ah tm 21=.c ev/\Tr.ah tm 22=.c (.int .i64 (.ofNat g.e.length))/\Tr.ah tm 23=.c (.int .i64 (.ofNat i))
  /\σ'.h σ2.aj=some ⟨[cm,G,Dv,Rf,Nt,Su,Re,Fu],none⟩/\σ'.h (σ2.aj+1)=some ⟨bY g.e.length (asG g x i),none⟩/\Fr σ2 σ'/\σ2.aj+1+1<=σ'.aj) g.e.length ?_ ?_
 .refine⟨0,jb,jb,?_⟩
  simp(disch:=try exact jz) only[go_sem,z3,am]
  exact⟨rfl,fr,jb⟩
 .rintro q tm σ' ⟨i,rfl,hi,t5,t6,t21,t22,t23,q5,q6,hf,hnx⟩
  have hle:=hf.le
  have hf0:=hf2.trans hf
  simp(disch:=try exact jz) only[go_sem,z3,t5,t6,t21,t22,t23,aG]
  refine aH (λhlt=>?_) (λhlt=>?_)
  .obtain⟨b5,o5,c5,rfl,C1,A1,bZ,-,hC,hA1⟩:=hg.e.at hlt
   have bZ:=hf0.ld hW bZ
   have Ve:=aZ.kn hC
   have hAk:=hA1.kn
   have hlC:=aZ.len hC
   obtain⟨hm1,hm2⟩:=hA.m i hlt
   have hmf:=pI hm1 jj
   have hkk:=hN.k i hlt
   have hraw:rq (ix g.e i).m.n (ix g.e i).m.s (ix g.e i).m.d=apM g i:=rfl
   have z1:Sz (asG g x i i):=((aaX (h:=Y5 g) hRN hmZ hN.k hi i).mono (l:=20000000000) jb).sz hN.hD jb
   have z1':=z1.two
   have hst:=ai1 (m:=apM g) (k:=kE g.e) (h:=Y5 g) (R:=apR g x) (N:=apN g x) g.e.length i
   have jv:=Fr.refl hf.wf
   simp(disch:=try exact jz) only[go_sem,z3,t5,t6,t21,t22,t23,bZ,Ve,hAk,hlC,hmf,hraw,q6,ak q6,aI q6,z1',hst]
   refine bP.st (Fr σ2) (fr) λgV=>?_
   refine bP.mono (Q:=λex tm σ4=>ex=.exit 2/\Tr.ah tm 5=.c (.ptr σ2.aj 0)/\Tr.ah tm 6=.c (.sl (σ2.aj+1) 0 g.e.length (.ex g.e.length))/\Tr.ah tm 21=.c (.sl b5 o5 g.e.length c5)/\Tr.ah tm 22=.c (.int .i64 (.ofNat g.e.length))/\Tr.ah tm 23=.c (.int .i64 (.ofNat i))
     /\σ4.h σ2.aj=some ⟨[cm,G,Dv,Rf,Nt,Su,Re,Fu],none⟩/\σ4.h (σ2.aj+1)=some ⟨bY g.e.length (ai3 g x i (kE g.e i)),none⟩/\Fr σ2 σ4/\σ2.aj+1+1<=σ4.aj)
    (aF (λq tm σ4=>∃c,q=kE g.e i-c/\c<=kE g.e i/\Tr.ah tm 5=.c (.ptr σ2.aj 0)/\Tr.ah tm 6=.c (.sl (σ2.aj+1) 0 g.e.length (.ex g.e.length))/\Tr.ah tm 7=.c (.int .i64 (.ofNat i))/\Tr.ah tm 21=.c (.sl b5 o5 g.e.length c5)/\Tr.ah tm 22=.c (.int .i64 (.ofNat g.e.length))/\Tr.ah tm 23=.c (.int .i64 (.ofNat i))
     /\Tr.ah tm 39=.c C1/\Tr.ah tm 40=.c (.int .i64 (.ofNat (kE g.e i)))/\Tr.ah tm 41=.c (.int .i64 (.ofNat c))
     /\σ4.h σ2.aj=some ⟨[cm,G,Dv,Rf,Nt,Su,Re,Fu],none⟩/\σ4.h (σ2.aj+1)=some ⟨bY g.e.length (ai3 g x i c),none⟩/\Fr σ2 σ4/\σ2.aj+1+1<=σ4.aj) (kE g.e i) ?_ ?_) ?_
   .refine⟨0,jb,jb,?_⟩
    simp(disch:=try exact jz) only[go_sem,z3,t5,t6,t21,t22,t23,am]
    and_intros<;>try(first|rfl|omega|exact q5|exact gV|exact fr)
   .rintro q tm σ4 ⟨c,rfl,hc,t5,t6,t7,t21,t22,t23,t39,t40,t41,Vl,q64,hf4,hn4⟩
    have vO:=hf4.le
    simp(disch:=try exact jz) only[go_sem,z3,t5,t6,t7,t21,t22,t23,t39,t40,t41,aG]
    refine aH (λAk=>?_) (λAk=>?_)
    .obtain⟨b8,o8,c8,e8,-,lC⟩:=aZ.pos hC (show 0<(ix g.e i).c.length by unfold kE at Ak;omega)
     have lC:=(hf2.trans hf4).ld hW (lC c Ak)
     have e8:C1=.sl b8 o8 (kE g.e i) c8:=e8
     rw[e8]at t39
     unfold c5B at lC
     obtain⟨bR,oR,cR,TR,eR,pR,hlR,hR⟩:=h4.at hlt
     obtain⟨bR2,oR2,cR2,eR2,pR2,ai4⟩:=aZ.at3 hR Ak
     obtain⟨bN,oN,cN,TN,eN,pN,hlN,hNt⟩:=h5.at hlt
     obtain⟨bN2,oN2,cN2,eN2,pN2,anj⟩:=aZ.at3 hNt Ak
     have hlR:=hf4.ld hf2.wf hlR
     have ai4:=hf4.ld hf2.wf ai4
     have hlN:=hf4.ld hf2.wf hlN
     have anj:=hf4.ld hf2.wf anj
     rw[eR2]at hlR
     rw[eN2]at hlN
     rw[eR,eN]at Vl
     obtain⟨hr1,hr2⟩:=hRN i hlt c Ak
     have zB:=asF (h:=Y5 g) hRN hmZ hN.k hn hlt hc
     have z1:Sz (ai3 g x i c i):=(zB i).sz hN.hD jb
     have z2:Sz (yj (aY g) x (i,c)):=hr1.sz hN.hD jb
     have z3':Sz (Jz (aY g) x (i,c)):=hr2.sz hN.hD jb
     have DR:=Fr.refl hf4.wf
     have hb8:=hf4.wf.dB lC
     have b1:=hf4.wf.dB hlR
     have b2:=hf4.wf.dB ai4
     have b3:=hf4.wf.dB hlN
     have b4:=hf4.wf.dB anj
     rcases hA.h i hlt c Ak with hh|⟨hh,hh1,hh2⟩
     .have hst2:=ang (m:=apM g) (k:=kE g.e) (h:=Y5 g) (R:=apR g x) (N:=apN g x) (n:=g.e.length) (i:=i) (c:=c) hh
      simp(disch:=try exact jz) only[go_sem,z3,t5,t6,t7,t21,t22,t23,t39,t40,t41,lC,hlR,ai4,ak Vl,Vl,q64,ak q64,aI q64,hh]
      have a1:=bL (λl=>some (Bk.mk l none)) hst2
      have a2:(some (Bk.mk [cm,G,Dv,.sl bR oR g.e.length cR,.sl bN oN g.e.length cN,Su,Re,Fu] none):Option Bk)=some ⟨[cm,G,Dv,Rf,Nt,Su,Re,Fu],none⟩:=by rw[eR,eN]
      have a3:V.c (.sl b8 o8 (kE g.e i) c8)=V.c C1:=by rw[e8]
      refine⟨kE g.e i-(c+1),jb,c+1,rfl,jb,?_⟩
      and_intros<;>try(first|rfl|omega|exact a1|exact a2|exact a3|exact fr)
     .have hst2:=asE (m:=apM g) (k:=kE g.e) (h:=Y5 g) (R:=apR g x) (N:=apN g x) (n:=g.e.length) (i:=i) (c:=c) (hh:=hh) hh1
      have z4:Sz (aN (ai3 g x i c) i (ai3 g x i c i+yj (aY g) x (i,c)) hh):=by
       unfold aN;split
       .exact((zB i).add hr1).sz hN.hD jb
       .exact(zB hh).sz hN.hD jb
      simp(disch:=try exact jz) only[go_sem,z3,t5,t6,t7,t21,t22,t23,t39,t40,t41,lC,hlR,ai4,hlN,anj,ak Vl,Vl,q64,ak q64,aI q64,hh1,mO]
      have a1:=bL (λl=>some (Bk.mk l none)) hst2
      have a2:(some (Bk.mk [cm,G,Dv,.sl bR oR g.e.length cR,.sl bN oN g.e.length cN,Su,Re,Fu] none):Option Bk)=some ⟨[cm,G,Dv,Rf,Nt,Su,Re,Fu],none⟩:=by rw[eR,eN]
      have a3:V.c (.sl b8 o8 (kE g.e i) c8)=V.c C1:=by rw[e8]
      refine⟨kE g.e i-(c+1),jb,c+1,rfl,jb,?_⟩
      and_intros<;>try(first|rfl|omega|exact a1|exact a2|exact a3|exact fr)
    .have:c=kE g.e i:=jb
     subst this
     simp(disch:=try exact jz) only[go_sem,z3,am]
     exact⟨t5,t6,t21,t22,t23,Vl,q64,hf4,hn4⟩
   .rintro _ tm σ4 ⟨rfl,t5,t6,t21,t22,t23,Vl,q64,hf4,hn4⟩
    simp(disch:=try exact jz) only[go_sem,z3,t5,t6,t21,t22,t23]
    exact⟨g.e.length-(i+1),jb,i+1,rfl,jb,rfl,Vl,q64,hf4,hn4⟩
  .have:i=g.e.length:=jb
   subst this
   simp(disch:=try exact jz) only[go_sem,z3,t6]
   exact⟨⟨_,rfl,q6,jb,jb⟩,hf0⟩
def Qk(W:Rat)(q r:Nat->Rat)(k:Nat):Rat:=nY W (aB (k+1) q) (aB (k+1) r)-nY W (aB k q) (aB k r)
def aaY(W:Rat):nY W 0 0=0:=by grind[nY]
theorem LQ(W:Rat)(q r:Nat->Rat):∀m,aB m (Qk W q r)=nY W (aB m q) (aB m r)
 |0=>(aaY W).symm
 |m+1=>by rw[aB,LQ W q r m];unfold Qk;grind
def RP{W:Rat}{q r:fM->Rat}{a:fM}(j:Nat):∀{t:List fM}{Q R:Rat},jl W q r Q R (nY W Q R) (t++[a]) j=jl W q r Q R (nY W Q R) t j+if a.1=j then nY W (Q+aK t q+q a) (R+aK t r+r a)-nY W (Q+aK t q) (R+aK t r)else 0
 |[],Q,R=>by show(if a.1=j then nY W (Q+q a) (R+r a)-nY W Q R else 0)+0=0+if a.1=j then nY W (Q+0+q a) (R+0+r a)-nY W (Q+0) (R+0)else 0;grind
 |b::t,Q,R=>by rw[gO];unfold jl;rw[RP];show _=_+if a.1=j then nY W (Q+(q b+aK t q)+q a) (R+(r b+aK t r)+r a)-nY W (Q+(q b+aK t q)) (R+(r b+aK t r))else 0;rw[show Q+(q b+aK t q)=Q+q b+aK t q by grind,show R+(r b+aK t r)=R+r b+aK t r by grind];grind
section
variable (g:gB) (x:Nat→Rat)
def KD(i c:Nat):Rat:=x9 (dU (ix g.e i)) (x i) c
def OX(j i c:Nat):Rat:=if uO (aY g) j i c then KD g x i c else 0
def Ql(i c j b:Nat):Rat:=if b<i then aB (kE g.e b) (OX g x j b)else if b=i then aB c (OX g x j i)else 0
def mgP(t j b:Nat):Rat:=aB (kE g.e b) (OX g x j b)+aK ((aY g).ds.take t) (dM (aY g) x j b)
def JF(t i:Nat)(u:Nat->Rat)(j b:Nat):Rat:=mgP g x t j b+if b<i then dM (aY g) x j b (dW g t,dL g t)else if b=i then u j else 0
def RS(t i k j:Nat):Rat:=jl (dW g t) (gq (aY g) x) (gs (aY g) x i) 0 0 0 ((dL g t).take k) j
def RU(t k:Nat):Rat:=gq (aY g) x (zL (ix (ix g.d t).l k))
def II(t i k:Nat):Rat:=gs (aY g) x i (zL (ix (ix g.d t).l k))
end
section
variable {g:gB} {x:Nat→Rat}
def ai5:Ql g x 0 0=λ_ _=>0:=by funext j b;unfold Ql;rw[ae jb];split<;>rfl
def ai6(i:Nat):Ql g x i (kE g.e i)=Ql g x (i+1) 0:=by
 funext j b;unfold Ql;by_cases h:b<i
 .grind
 .rw[ae h];by_cases h2:b=i
  .grind
  .rw[ae h2,ae jb];split<;>rfl
def ank{i c hh:Nat}(hl:(aY g).fA.contains (i,c)=false)(hk:Y5 g i c=(hh:Int)):rO (rC (Ql g x i c)) hh i (gZ (Ql g x i c hh i+KD g x i c))=rC (Ql g x i (c+1)):=by
 funext j b;have ho:OX g x j i c=if j=hh then KD g x i c else 0:=by unfold OX uO;grind[aY,Y5]
 grind[rO,rC,Ql,aB]
def Yf{i c:Nat}(h:(aY g).fA.contains (i,c)=true\/Y5 g i c=-1):Ql g x i c=Ql g x i (c+1):=by
 funext j b;have ho:OX g x j i c=0:=by unfold OX uO;grind[aY,Y5]
 grind[Ql,aB]
def anl{n j b:Nat}(hb:b<n):Ql g x n 0 j b=mgP g x 0 j b:=by unfold Ql mgP;rw[ab hb,cM];exact(da _).symm
def ai7(t:Nat):mgP g x t=JF g x t 0 λ_=>0:=by grind[JF]
def OY(t i:Nat):(JF g x t i λj=>dM (aY g) x j i (dW g t,dL g t))=JF g x t (i+1) λ_=>0:=by grind[JF]
theorem ai8{t j b:Nat}(h:t<g.d.length):mgP g x (t+1) j b=mgP g x t j b+dM (aY g) x j b (dW g t,dL g t):=by grind[mgP,bU,yt,mM,OQ]
def anm{t n j b:Nat}(h:t<g.d.length)(hb:b<n):JF g x t n (λ_=>0) j b=mgP g x (t+1) j b:=by grind[ai8,JF]
def ano{j b:Nat}:mgP g x g.d.length j b=gM g.e.length (aY g) x j b:=by unfold mgP gM;rw[<-yt,cC];congr 1;refine aJ λc _=>?_;unfold OX;have e:gs (aY g) x b (b,c)=KD g x b c:=ab rfl;rw[e]
def ai9(t i:Nat):(λ_:Nat=>(0:Rat))=RS g x t i 0:=by rfl
theorem JG(g:gB)(t:Nat):(dL g t).length=(ix g.d t).l.length:=de _
theorem aja{t k:Nat}(hk:k<(ix g.d t).l.length):ix (dL g t) k=zL (ix (ix g.d t).l k):=XW zL hk
def Vp(f:fM->Rat){t m:Nat}(hm:m<=(ix g.d t).l.length):aB m (λk=>f (zL (ix (ix g.d t).l k)))=aK ((dL g t).take m) f:=by grind[OT,JG,aJ,aja]
def ajb{t i k j:Nat}(hk:k<(ix g.d t).l.length):RS g x t i (k+1) j=RS g x t i k j+if(zL (ix (ix g.d t).l k)).1=j then Qk (dW g t) (RU g x t) (II g x t i) k else 0:=by unfold RS;rw[bU (by grind[JG]),aja hk];have h:=RP (W:=dW g t) (q:=gq (aY g) x) (r:=gs (aY g) x i) (a:=zL (ix (ix g.d t).l k)) j (t:=(dL g t).take k) (Q:=0) (R:=0);rw[aaY,gn,gn]at h;rw[h];unfold Qk;have e1:∀m,m<=(ix g.d t).l.length->aB m (RU g x t)=aK ((dL g t).take m) (gq (aY g) x):=λm hm=>Vp (gq (aY g) x) hm;have e2:∀m,m<=(ix g.d t).l.length->aB m (II g x t i)=aK ((dL g t).take m) (gs (aY g) x i):=λm hm=>Vp (gs (aY g) x i) hm;rw[aB,aB,e1 k jb,e2 k jb];rfl
def anp{t i k e c:Nat}(hk:k<(ix g.d t).l.length)(E5:ix (ix g.d t).l k=⟨.ofNat e,.ofNat c⟩):rO (rC (JF g x t i (RS g x t i k))) e i (gZ (JF g x t i (RS g x t i k) e i+Qk (dW g t) (RU g x t) (II g x t i) k))=rC (JF g x t i (RS g x t i (k+1))):=by funext j b;have h:=ajb (x:=x) (i:=i) (j:=j) hk;rw[E5]at h;have h:RS g x t i (k+1) j=RS g x t i k j+if e=j then Qk (dW g t) (RU g x t) (II g x t i) k else 0:=h;grind[rO,rC,JF]
theorem acR{t i:Nat}(j:Nat):dM (aY g) x j i (dW g t,dL g t)=(if F6 (aY g) (dW g t,dL g t)=(j:Int)then aB (ix g.d t).l.length (II g x t i)-aB (ix g.d t).l.length (Qk (dW g t) (RU g x t) (II g x t i))else 0)+RS g x t i (ix g.d t).l.length j:=by unfold dM RS;have e1:aB (ix g.d t).l.length (RU g x t)=aK ((dL g t).take (ix g.d t).l.length) (gq (aY g) x):=Vp (gq (aY g) x) jp;have e2:aB (ix g.d t).l.length (II g x t i)=aK ((dL g t).take (ix g.d t).l.length) (gs (aY g) x i):=Vp (gs (aY g) x i) jp;grind[LQ,JG]
def anq{t i hh:Nat}(hd:F6 (aY g) (dW g t,dL g t)=(hh:Int)):rO (rC (JF g x t i (RS g x t i (ix g.d t).l.length))) hh i (gZ (JF g x t i (RS g x t i (ix g.d t).l.length) hh i+(aB (ix g.d t).l.length (II g x t i)-aB (ix g.d t).l.length (Qk (dW g t) (RU g x t) (II g x t i)))))=rC (JF g x t i λj=>dM (aY g) x j i (dW g t,dL g t)):=by grind[rO,rC,JF,acR]
def Yg{t i:Nat}(hd:F6 (aY g) (dW g t,dL g t)=-1):JF g x t i (RS g x t i (ix g.d t).l.length)=JF g x t i λj=>dM (aY g) x j i (dW g t,dL g t):=by
 have e:RS g x t i (ix g.d t).l.length=λj=>dM (aY g) x j i (dW g t,dL g t):=by grind[acR]
 rw[e]
end
structure Vq(D:Nat)(g:gB)(x:Nat->Rat):Prop where
 A:asH D g x
 r:∀i,i<g.e.length->ROk D (dU (ix g.e i)) (x i)
 s:∀i,i<g.e.length->∀c,c<kE g.e i->0<=KD g x i c/\Zk D 1 (KD g x i c)
def Vr{D:Nat}{W:Rat}{q r:fM->Rat}{j:Nat}:∀(t:List fM){Q R B:Rat}{K M:Nat},(∀a∈t,Zk D 1 (r a))->Zk D K R->Zk D K B->K+t.length<=M->Zk D (t.length*(2*M)) (jl W q r Q R B t j)
 |[],_,_,_,_,_,_,_,_,_=>Zk.zero.mono (bj _)
 |a::t,Q,R,B,K,M,hr,hR,hB,hM=>by
  rw[bX]at hM⊢;have ho:Zk D (K+1) (nY W (Q+q a) (R+r a)):=by
   unfold nY;split
   .exact hR.add (hr a kc)
   .exact Zk.zero.mono (bj _)
  have h1:=Vr (W:=W) (q:=q) (j:=j) (Q:=Q+q a) t (λb hb=>hr b (by simp[hb])) (hR.add (hr a kc)) ho (by omega:K+1+t.length<=M);rw[cB,eZ];unfold jl;refine Zk.add ?_ h1;split
  .exact(ho.sub hB).mono jb
  .exact Zk.zero.mono (bj _)
section
variable {D:Nat} {g:gB} {x:Nat→Rat}
theorem Vq.gs(h:Vq D g x){t:Nat}(ht:t<g.d.length)(i:Nat):∀a∈dL g t,Zk D 1 (gs (aY g) x i a)/\0<=gs (aY g) x i a:=λa ha=>by
 obtain⟨y,hy,rfl⟩:=cV.mp ha;obtain⟨k,hk,rfl⟩:=aM hy;rw[<-fE hk];obtain⟨e,c,h1,h2,h3⟩:=(h.A.s.l t ht).2 k hk;rw[h1];unfold Ins.gs;obtain⟨h4,h5⟩:=h.s e h2 c h3;split
 .exact⟨h5,h4⟩
 .exact⟨Zk.zero.mono (bj _),bh⟩
def Vq.own(h:Vq D g x){j b c:Nat}(hb:b<g.e.length)(hc:c<kE g.e b):Zk D 1 (OX g x j b c):=by
 unfold OX;split
 .exact(h.s b hb c hc).2
 .exact Zk.zero.mono (bj _)
def Vq.A'(h:Vq D g x){i c j b:Nat}(hb:b<g.e.length)(hc:b=i->c<=kE g.e b):Zk D 1000 (Ql g x i c j b):=by
 have hk:=h.A.s.k b hb;unfold Ql;split
 .exact(Zk.Aj λc hc=>h.own hb hc).mono hk
 .split
  .next e=>
   subst e;exact(Zk.Aj λc' hc'=>h.own hb jb).mono jb
  .exact Zk.zero.mono (bj _)
theorem Vq.dM(h:Vq D g x){t:Nat}(ht:t<g.d.length)(j i:Nat):Zk D 2002000 (dM (aY g) x j i (dW g t,dL g t)):=by
 have hl:=(h.A.s.l t ht).1;have hlen:=JG g t;have hz:Zk D 1000 (aK (dL g t) (Ins.gs (aY g) x i)):=(U2 λa ha=>(h.gs ht i a ha).1).mono jb;have hr:=Vr (W:=dW g t) (q:=gq (aY g) x) (j:=j) (Q:=0) (K:=0) (M:=1000) (dL g t) (λa ha=>(h.gs ht i a ha).1) Zk.zero Zk.zero jb;unfold Ins.dM;refine Zk.mono (Zk.add (k:=2000) (l:=2000000) ?_ (hr.mono ?_)) jb
 .split
  .refine(hz.sub (l:=1000) ?_).mono jb;unfold nY;split
   .exact hz
   .exact Zk.zero.mono (bj _)
  .exact Zk.zero.mono (bj _)
 omega
def Vq.U(h:Vq D g x){t:Nat}(ht:t<g.d.length)(i k j:Nat):Zk D 2002000 (RS g x t i k j):=by have hl:=(h.A.s.l t ht).1;have hlen:=JG g t;have hr:=Vr (W:=dW g t) (q:=gq (aY g) x) (j:=j) (Q:=0) (K:=0) (M:=1000) ((dL g t).take k) (λa ha=>(h.gs ht i a (eA ha)).1) Zk.zero Zk.zero kd;refine hr.mono ?_;grind
def Vq.P(h:Vq D g x){t j b:Nat}(ht:t<=g.d.length)(hb:b<g.e.length):Zk D 2002001000 (mgP g x t j b):=by
 have hk:=h.A.s.k b hb;have hd:=h.A.s.d;have h1:Zk D 1000 (aB (kE g.e b) (OX g x j b)):=(Zk.Aj λc hc=>h.own hb hc).mono hk;have h2:∀t,t<=g.d.length->Zk D (t*2002000) (aK ((aY g).ds.take t) (Ins.dM (aY g) x j b)):=λt=>by
  induction t with
  |zero=>intro _;exact Zk.zero.mono (bj _)
  |succ t ih=>
   intro ht
   rw[bU (by grind[yt]),mM,OQ ht,cB]
   exact(ih jb).add (h.dM ht j b)
 exact(h1.add (h2 t ht)).mono jb
def Vq.D'(h:Vq D g x){t i j b:Nat}{u:Nat->Rat}(ht:t<g.d.length)(hb:b<g.e.length)(hu:Zk D 2002000 (u j)):Zk D 2004003000 (JF g x t i u j b):=by
 unfold JF;refine Zk.mono (Zk.add (l:=2002000) (h.P (io ht) hb) ?_) jb;split
 .exact h.dM ht j b
 .split
  .exact hu
  .exact Zk.zero.mono (bj _)
end
def ae3{n:Nat}{tk:Int->Bool}{x:AV}(h:Z8 n tk x=0):(x.k=Int.negSucc 0/\x.b=true\/∃c:Nat,c<n/\x.k=Int.ofNat c/\tk x.k=false)/\(x.b=true->¬sg x.a.q<0):=by
 unfold Z8 at h;split at h
 .cases h
 .split at h
  .cases h
  .split at h
   .cases h
   .split at h
    .cases h
    .next h1 h2 h3 h4=>
     refine⟨?_,λhb hs=>h3 ⟨hb,hs⟩⟩;by_cases e:x.k=-1
     .refine .inl ⟨e,?_⟩;cases hb:x.b with
      |true=>rfl
      |false=>exact absurd ⟨e,hb⟩ h2
     .obtain⟨c,hc⟩:=cw (show 0<=x.k by omega);refine .inr ⟨c,jb,hc,?_⟩;cases ht:tk x.k with
      |false=>rfl
      |true=>exact absurd ⟨e,ht⟩ h4
def ae4{n:Nat}{tk:Int->Bool}{a:iy}(h:Xc n tk a=0):(a.length<=24/\∀i,i<a.length->(ix a i).length<=24)/\∀k,k<a.flatten.length->Z8 n tk (ix a.flatten k)=0:=by
 unfold Xc at h;split at h
 .cases h
 .next h1=>
  refine⟨Df.mp (by simpa using h1),λk hk=>?_⟩;obtain⟨t,ht,hx⟩:=List.mem_flatten.mp (lM hk);obtain⟨i,hi,rfl⟩:=aM ht;obtain⟨j,hj,e⟩:=aM hx;have:=iR (iR h i hi) j (by rw[fE hi];exact hj);rw[fE hi,fE hj,e]at this;exact this
def ae5{σ:St}(hW:WF σ){p:Nat->Prop}{v:B}{n:Nat}{T:Nat->B}(hv:aZ p σ.h 1 v n λi=>[T i])(hT:∀i,i<n->∃k:Nat,lenV (.c (T i))=some (.c (.int .i64 (.ofNat k)))/\k<=24)(hn:n<=1000):
  aC EN 212 [.c v,.fn 180 []] σ λr σ'=>r=.c (.int .i64 (.negSucc 0))/\Fr σ σ':=by
 refine aO (fZ.o _ _) fZ.h ?_
 unfold fZ
 dsimp only
 have hlen:=aZ.len hv
 have hc:=λ(args:List V) (σ:St) (K:V->St->Prop)=>iJ (E:=EN) (K:=K) (je.o args σ) je.h
 unfold je at hc
 dsimp only at hc
 simp(disch:=try exact jz) only[go_sem,z3,hlen]
 refine aF (λq tm σ'=>∃j,q=n-j/\j<=n/\Tr.ah tm 0=.c v/\Tr.ah tm 1=.fn 180 []/\Tr.ah tm 7=.c (.int .i64 (.ofNat n))/\Tr.ah tm 8=.c (.int .i64 (.ofNat j))/\Fr σ σ') n ?_ ?_
 .refine⟨0,jb,jb,?_⟩
  simp(disch:=try exact jz) only[go_sem,z3,am]
  exact Fr.refl hW
 .rintro q tm σ' ⟨j,rfl,hj,t0,t1,t7,t8,hf⟩
  simp(disch:=try exact jz) only[go_sem,z3,t0,t1,t7,t8,aG]
  refine aH (λhlt=>?_) (λhlt=>?_)
  .obtain⟨b,o,c,rfl,hld⟩:=HL.one (aZ.hl hv) jb
   have hld:=hf.ld hW (hld j hlt)
   obtain⟨k,hk,hk2⟩:=hT j hlt
   have hd:decide ((Int.ofNat 24:Int)<Int.ofNat k)=false:=az (by show¬((24:Int)<(k:Int));omega)
   simp(disch:=try exact jz) only[go_sem,z3,t0,t1,t7,t8,hld,hc,hk,hd]
   exact⟨n-(j+1),jb,j+1,rfl,jb,rfl,hf⟩
  .have:j=n:=jb
   subst this
   simp(disch:=try exact jz) only[go_sem,z3,t0]
   exact hf
def ajd{E:Env}[aaf E]{σ:St}(hW:WF σ){p:Nat->Prop}{v:B}{a:iy}(ha:fC p σ.h v a)(h1:a.length<=1000000)(h2:a.flatten.length<=1000000):
  aC E 181 [.c v] σ λr σ'=>(∃u,r=.c u/\Dh (Lt σ'.aj) σ'.h u a.flatten)/\Fr σ σ':=by
 by_cases h0:a.flatten.length=0
 .rw[XZ ha h1 h2 (v':=.c .aX) (σ':=σ) (ab h0)]
  exact⟨⟨_,rfl,.inl ⟨h0,rfl⟩⟩,Fr.refl hW⟩
 .rw[XZ ha h1 h2 (ae h0)]
  exact⟨⟨_,rfl,bC _ (aA _ _ _) (FB _ _ jj) (ce _) (λ_=>rfl) jj λ_ _=>rfl⟩,fr⟩
def avZ{σ:St}(hW:WF σ){p:Nat->Prop}{v tv:B}{a:iy}{nc:Nat}{tk:Int->Bool}(ha:fC p σ.h v a)(ht:HL σ.h 1 tv nc λi=>[.bool (tk (Int.ofNat i))])(hn:nc<=1000)(hz:Xc nc tk a=0)(hnf:a.flatten.length<=1000000)(hfp:∀k,k<a.flatten.length->(ix a.flatten k).a.fits 1000000):
  aC EN 139 [.agg [v],.c tv] σ λr σ'=>r=.c (.int .i64 (.ofNat 0))/\Fr σ σ':=by
 refine aO (jq.o _ _) jq.h ?_
 unfold jq
 dsimp only
 obtain⟨⟨hl,hlt⟩,hc0⟩:=ae4 hz
 have ha':=ha
 obtain⟨T,hT,hP⟩:=ha'
 have hvk:=hT.kn
 have hvl:=aZ.len hT
 have htk:=ht.kn
 have htl:=ht.len
 have hFr:=Fr.refl hW
 have hd:decide ((Int.ofNat 24:Int)<Int.ofNat a.length)=false:=az (by show¬((24:Int)<(a.length:Int));omega)
 have hcf:=λ(args:List V) (σ:St) (K:V->St->Prop)=>iJ (E:=EN) (K:=K) (fD.o args σ) fD.h
 unfold fD at hcf
 dsimp only at hcf
 simp(disch:=try exact jz) only[go_sem,z3,hvk,hvl,htk,hd,hcf]
 refine aC.st (Fr σ) (fr) λhF=>?_
 refine(ae5 hF.wf (aZ.fr hW hF hT) (λi hi=>⟨_,aZ.len (hP i hi),hlt i hi⟩) jb).mono ?_
 rintro _ σ2 ⟨rfl,hf2⟩
 have hF2:=hF.trans hf2
 have q2:=hf2.get hF.wf (aA _ _ _)
 simp(disch:=try exact jz) only[go_sem,z3,show(Int.ofNat 0<=Int.negSucc 0)=False from propext ⟨λh=>absurd h jj,False.elim⟩,ak q2,hvk]
 refine(ajd hf2.wf (ha.fr hW hF2) jb hnf).mono ?_
 rintro _ σ3 ⟨⟨u,rfl,hu⟩,hf3⟩
 have hF3:=hF2.trans hf3
 have hul:=aZ.len hu
 have huk:=aZ.kn hu
 generalize a.flatten=l at*
 simp(disch:=try exact jz) only[go_sem,z3,hul,huk]
 refine aF (λq tm σ'=>∃j,q=l.length-j/\j<=l.length/\Tr.ah tm 1=.c tv/\Tr.ah tm 19=.c u/\Tr.ah tm 20=.c (.int .i64 (.ofNat l.length))/\Tr.ah tm 21=.c (.int .i64 (.ofNat j))/\Fr σ3 σ') l.length ?_ ?_
 .refine⟨0,jb,jb,?_⟩
  simp(disch:=try exact jz) only[go_sem,z3,am]
  exact Fr.refl hf3.wf
 .rintro q tm σ' ⟨j,rfl,hj,t1,t19,t20,t21,hf⟩
  simp(disch:=try exact jz) only[go_sem,z3,t1,t19,t20,t21,aG]
  refine aH (λhlt=>?_) (λhlt=>?_)
  .obtain⟨b,o,c,rfl,-,hld⟩:=aZ.pos hu jb
   have hld:=hf.ld hf3.wf (hld j hlt)
   unfold BR at hld
   obtain⟨h1,h2⟩:=ae3 (hc0 j hlt)
   have hfit:=pI (hfp j hlt) jj
   have hraw:rq (ix l j).a.n (ix l j).a.s (ix l j).a.d=(ix l j).a.q:=rfl
   have hle:=hf.le
   have jv:=Fr.refl hf.wf
   rcases h1 with⟨e1,e2⟩|⟨k,hk,e1,e2⟩
   .rw[e1,e2]at hld
    have hsg:decide (sg (ix l j).a.q<Int.ofNat 0)=false:=az (h2 e2)
    simp(disch:=try exact jz) only[go_sem,z3,t1,t19,t20,t21,hld,hsg,hraw]
    exact⟨l.length-(j+1),jb,j+1,rfl,jb,rfl,fr⟩
   .rw[e1]at hld e2
    obtain⟨b2,o2,c2,rfl,ET⟩:=HL.one ht jb
    have ET:=(hF3.trans hf).ld hW (ET k hk)
    have hb2:=hf.wf.dB ET
    rw[e2]at ET
    have d1:decide (Int.ofNat k=Int.negSucc 0)=false:=rfl
    have d2:decide (Int.ofNat k<Int.ofNat 0)=false:=az (by show¬((k:Int)<0);omega)
    have d3:decide (Int.ofNat nc<=Int.ofNat k)=false:=az (by show¬((nc:Int)<=(k:Int));omega)
    cases hb:(ix l j).b with
    |true=>
     rw[hb]at hld
     have hsg:decide (sg (ix l j).a.q<Int.ofNat 0)=false:=az (h2 hb)
     simp(disch:=try exact jz) only[go_sem,z3,t1,t19,t20,t21,hld,hsg,hraw,d1,d2,d3,htl,ET]
     exact⟨l.length-(j+1),jb,j+1,rfl,jb,rfl,fr⟩
    |false=>
     rw[hb]at hld
     simp(disch:=try exact jz) only[go_sem,z3,t1,t19,t20,t21,hld,d1,d2,d3,htl,ET]
     exact⟨l.length-(j+1),jb,j+1,rfl,jb,rfl,fr⟩
  .simp(disch:=try exact jz) only[go_sem,z3,am]
   exact hF3.trans hf
def ae6{x:C5}(h:Un x=0): -1<=x.h/\x.h<8/\0<=x.r/\x.r<=7/\¬sg x.a.q<0:=by
 unfold Un at h;split at h
 .cases h
 .split at h
  .cases h
  .split at h
   .cases h
   .omega
def ae7{e:BQ}(h:FX e=0):e.c.length<=24/\e.a.length<=12/\¬sg e.m.q<0/\(∀i,i<e.c.length->Un (ix e.c i)=0)/\∀k,k<e.a.length->Xc e.c.length (zT e.a k) (ix e.a k)=0:=by
 unfold FX at h;split at h
 .cases h
 .split at h
  .cases h
  .split at h
   .next h3=>exact absurd h h3
   .next h1 h2 h3=>exact⟨jb,jb,h2,iR (by simpa using h3),iR h⟩
def tkS(f:Int->Bool)(L:List Int)(l k:Nat):Bool:=f (Int.ofNat k)||(L.take l).contains (Int.ofNat k)
def anr{n l c:Nat}{f:Int->Bool}{L:List Int}(hl:l<L.length)(hc:ix L l=Int.ofNat c):ones n (aN (λk=>B.bool (tkS f L l k)) c (.bool true))=ones n λk=>.bool (tkS f L (l+1) k):=bF λk _=>by
 unfold aN tkS;rw[bU hl,hc,List.contains_append];by_cases e:k=c
 .subst e;rw[ab rfl];simp
 .rw[ae e];have:([Int.ofNat c].contains (Int.ofNat k))=false:=by simp;omega
  rw[this];simp
def ant{l:List iy}{j:Nat}(hj:j<l.length)(k:Nat):tkS (zT l j) (wI (ix l j)) (wI (ix l j)).length k=zT l (j+1) (Int.ofNat k):=by unfold tkS;rw[cC,aep hj];congr 1;rw[Bool.eq_iff_iff,List.contains_iff_mem,qV];exact⟨λh=>h.2,λh=>⟨by show(k:Int)≠-1;omega,h⟩⟩
def av1{σ:St}(hW:WF σ){p:Nat->Prop}{e:BQ}{C A:B}(hc:Et p σ.h C e.c)(ha:jm p σ.h A e.a)(hz:FX e=0)(hm:e.m.fits 1000000)(hfc:∀k,k<e.c.length->(ix e.c k).a.fits 1000000)
  (hA:∀j,j<e.a.length->(ix e.a j).length<=1000/\(ix e.a j).flatten.length<=1000000/\(∀k,k<(ix e.a j).flatten.length->(ix (ix e.a j).flatten k).a.fits 1000000)/\∀t∈ix e.a j,∀x∈t,x.k=-1\/0<=x.k/\x.k<e.c.length):
  aC EN 84 [.agg [.bool e.m.n,.str e.m.s,.str e.m.d,C,A]] σ λr σ'=>r=.c (.int .i64 (.ofNat 0))/\Fr σ σ':=by
 refine aO (qX.o _ _) qX.h ?_
 unfold qX
 dsimp only
 obtain⟨h1,h2,h3,h4,h5⟩:=ae7 hz
 have hck:=aZ.kn hc
 have hcl:=aZ.len hc
 have hak:=ha.kn
 have hal:=ha.choose_spec.1.len
 have hFr:=Fr.refl hW
 have hfit:=pI hm jj
 have hraw:rq e.m.n e.m.s e.m.d=e.m.q:=rfl
 have hsg:decide (sg e.m.q<Int.ofNat 0)=false:=az h3
 have d1:decide ((Int.ofNat 24:Int)<Int.ofNat e.c.length)=false:=az (by show¬((24:Int)<(e.c.length:Int));omega)
 have d2:decide ((Int.ofNat 12:Int)<Int.ofNat e.a.length)=false:=az (by show¬((12:Int)<(e.a.length:Int));omega)
 simp(disch:=try exact jz) only[go_sem,z3,hck,hcl,hak,hal,hsg,hraw,d1,d2]
 refine bP.mono (Q:=λex tm σ'=>ex=.exit 1/\Tr.ah tm 1=.c (.ptr σ.aj 0)/\σ'.h σ.aj=some ⟨[.bool e.m.n,.str e.m.s,.str e.m.d,C,A],none⟩/\Fr σ σ'/\σ.aj+1<=σ'.aj)
  (aF (λq tm σ'=>∃i,q=e.c.length-i/\i<=e.c.length/\Tr.ah tm 1=.c (.ptr σ.aj 0)/\Tr.ah tm 28=.c C/\Tr.ah tm 29=.c (.int .i64 (.ofNat e.c.length))/\Tr.ah tm 30=.c (.int .i64 (.ofNat i))/\σ'.h σ.aj=some ⟨[.bool e.m.n,.str e.m.s,.str e.m.d,C,A],none⟩/\Fr σ σ'/\σ.aj+1<=σ'.aj) e.c.length ?_ ?_) ?_
 .refine⟨0,jb,jb,?_⟩
  simp(disch:=try exact jz) only[go_sem,z3,am]
  exact⟨fr,jp⟩
 .rintro q tm σ' ⟨i,rfl,hi,t1,t28,t29,t30,q1,hf,hnx⟩
  simp(disch:=try exact jz) only[go_sem,z3,t1,t28,t29,t30,aG]
  refine aH (λhlt=>?_) (λhlt=>?_)
  .obtain⟨b,o,c,rfl,-,hld⟩:=aZ.pos hc jb
   have hld:=hf.ld hW (hld i hlt)
   unfold c5B at hld
   obtain⟨g1,g2,g3,g4,g5⟩:=ae6 (h4 i hlt)
   have hfit:=pI (hfc i hlt) jj
   have hraw:rq (ix e.c i).a.n (ix e.c i).a.s (ix e.c i).a.d=(ix e.c i).a.q:=rfl
   have hsg:decide (sg (ix e.c i).a.q<Int.ofNat 0)=false:=az g5
   have e1:decide ((ix e.c i).h<Int.negSucc 0)=false:=az (by show¬(ix e.c i).h< -1;omega)
   have e2:decide (Int.ofNat 8<=(ix e.c i).h)=false:=az (by show¬8<=(ix e.c i).h;omega)
   have e3:decide ((ix e.c i).r<Int.ofNat 0)=false:=az (by show¬(ix e.c i).r<0;omega)
   have e4:decide (Int.ofNat 7<(ix e.c i).r)=false:=az (by show¬7<(ix e.c i).r;omega)
   have hle:=hf.le
   have jv:=Fr.refl hf.wf
   have hl1:=hf.wf.lt q1
   simp(disch:=try exact jz) only[go_sem,z3,t1,t28,t29,t30,hld,hsg,hraw,e1,e2,e3,e4,q1]
   exact⟨e.c.length-(i+1),jb,i+1,rfl,jb,rfl,fr,jb⟩
  .simp(disch:=try exact jz) only[go_sem,z3,am]
   exact⟨t1,q1,hf,hnx⟩
 .rintro _ I4 σ1 ⟨rfl,t1,q1,hf1,hn1⟩
  have hle1:=hf1.le
  have aeT:=Fr.refl hf1.wf
  have hl1:=hf1.wf.lt q1
  simp(disch:=try exact jz) only[go_sem,z3,t1,ak q1,q1,hck,hcl,hak,hal]
  refine aF (λq tm σ'=>∃j,q=e.a.length-j/\j<=e.a.length/\Tr.ah tm 5=.c (.sl σ1.aj 0 e.c.length (.ex e.c.length))/\Tr.ah tm 63=.c A/\Tr.ah tm 64=.c (.int .i64 (.ofNat e.a.length))/\Tr.ah tm 65=.c (.int .i64 (.ofNat j))
   /\σ'.h σ1.aj=some ⟨ones e.c.length λk=>.bool (zT e.a j (Int.ofNat k)),none⟩/\Fr σ σ'/\σ1.aj+1<=σ'.aj) e.a.length ?_ ?_
  .refine⟨0,jb,jb,?_⟩
   simp(disch:=try exact jz) only[go_sem,z3,am]
   exact⟨rfl,fr,jp⟩
  .rintro q tm σ' ⟨j,rfl,hj,t5,t63,t64,t65,q5,hf,hnx⟩
   simp(disch:=try exact jz) only[go_sem,z3,t5,t63,t64,t65,aG]
   refine aH (λhlt=>?_) (λhlt=>?_)
   .obtain⟨b,o,c,rfl,T,hld,hT⟩:=ha.at hlt
    have hld:=hf.ld hW hld
    obtain⟨a1,a2,a3,a4⟩:=hA j hlt
    have Y2:=hT.kn
    have hle:=hf.le
    have jv:=Fr.refl hf.wf
    simp(disch:=try exact jz) only[go_sem,z3,t5,t63,t64,t65,hld,Y2]
    refine aC.st (Fr σ') (fr) λhF=>?_
    have q5F:=hF.get hf.wf q5
    have hTF:=hT.fr hW (hf.trans hF)
    refine(avZ hF.wf hTF (aZ.hl (p:=λ_=>True) (bC (G:=λk=>[.bool (zT e.a j (Int.ofNat k))]) (.ex e.c.length) q5F rfl trivial (λ_=>rfl) jj λ_ _=>rfl)) jb (h5 j hlt) a2 a3).mono ?_
    rintro _ σ2 ⟨rfl,hf2⟩
    have hF2:=hF.trans hf2
    have q7:=hf2.get hF.wf (aA _ _ _)
    have d0:decide ((0:Int)=Int.ofNat 0)=true:=rfl
    simp(disch:=try exact jz) only[go_sem,z3,ak q7,Y2,t5,d0]
    refine(Rz hf2.wf (hT.fr hW (hf.trans hF2)) jb a2).mono ?_
    rintro _ σ3 ⟨⟨u,rfl,hu⟩,hf3⟩
    have hF3:=hF2.trans hf3
    have hul:=hu.len
    have huk:=hu.kn
    have q53:=hF3.get hf.wf q5
    have hle3:=hF3.le
    have hle2:=hF2.le
    have hm9:=uz a4
    have hall:=ant hlt
    have hu2:=hu.hlp (p:=λb=>σ2.aj<=b) (λ_=>rfl) jj (λ_ _=>rfl) λb h1 _=>h1
    have azp:(wI (ix e.a j)).length<=1000000000:=by rw[<-OG];exact aw (F8 a4) jb
    generalize wI (ix e.a j)=L at*
    have hz0:ones e.c.length (λk=>B.bool (zT e.a j (Int.ofNat k)))=ones e.c.length λk=>.bool (tkS (zT e.a j) L 0 k):=bF λk _=>by unfold tkS;rw[cM];simp
    rw[hz0]at q53
    have Qm:=hf.trans hF3
    simp(disch:=try exact jz) only[go_sem,z3,hul,huk]
    refine bP.mono (Q:=λex tm σ4=>ex=.exit 6/\Tr.ah tm 5=.c (.sl σ1.aj 0 e.c.length (.ex e.c.length))/\Tr.ah tm 63=.c (.sl b o e.a.length c)/\Tr.ah tm 64=.c (.int .i64 (.ofNat e.a.length))/\Tr.ah tm 65=.c (.int .i64 (.ofNat j))
     /\σ4.h σ1.aj=some ⟨ones e.c.length λk=>.bool (tkS (zT e.a j) L L.length k),none⟩/\Fr σ σ4/\σ3.aj<=σ4.aj)
     (aF (λq tm σ4=>∃l,q=L.length-l/\l<=L.length/\Tr.ah tm 5=.c (.sl σ1.aj 0 e.c.length (.ex e.c.length))/\Tr.ah tm 63=.c (.sl b o e.a.length c)/\Tr.ah tm 64=.c (.int .i64 (.ofNat e.a.length))/\Tr.ah tm 65=.c (.int .i64 (.ofNat j))/\Tr.ah tm 76=.c u/\Tr.ah tm 77=.c (.int .i64 (.ofNat L.length))/\Tr.ah tm 78=.c (.int .i64 (.ofNat l))
     /\σ4.h σ1.aj=some ⟨ones e.c.length λk=>.bool (tkS (zT e.a j) L l k),none⟩/\Fr σ σ4/\aU [σ1.aj] σ3 σ4) L.length ?_ ?_) ?_
    .refine⟨0,jb,jb,?_⟩
     simp(disch:=try exact jz) only[go_sem,z3,t5,t63,t64,t65,am]
     exact⟨q53,Qm,(Fr.refl hf3.wf).ex _⟩
    .rintro q tm σ4 ⟨l,rfl,hl,t5,t63,t64,t65,t76,t77,t78,Vl,hf4,hfe⟩
     simp(disch:=try exact jz) only[go_sem,z3,t5,t63,t64,t65,t76,t77,t78,aG]
     refine aH (λQb=>?_) (λQb=>?_)
     .obtain⟨b7,o7,c7,rfl,hp7,dw⟩:=aZ.pos hu2 jb
      have hp7:σ2.aj<=b7:=hp7
      have dw:=hfe.ld hf3.wf (by simp;omega) (dw l Qb)
      have dw:=(vM dw).1
      obtain⟨m1,m2⟩:=hm9 _ (lM Qb)
      obtain⟨cc,hcc⟩:=cw m1
      have hst:=anr (n:=e.c.length) (f:=zT e.a j) Qb hcc
      have axY:ix L l=Int.ofNat cc:=hcc
      have hcn:cc<e.c.length:=jb
      have azq:=hf4.wf.lt Vl
      have vO:=hfe.le
      have DR:=Fr.refl hf4.wf
      rw[axY]at dw
      simp(disch:=try exact jz) only[go_sem,z3,t5,t63,t64,t65,t76,t77,t78,dw,Vl,aI Vl,hst]
      exact⟨L.length-(l+1),jb,l+1,rfl,jb,rfl,rfl,fr,by repeat(first|assumption|exact aU.refl (by assumption)|exact aU.up (by assumption) kf|exact aU.up (aU.refl (by assumption)) kf|refine aU.set1 ?_ kg kf|refine aU.kK ?_ kg|refine aU.nP ?_ kg|refine aU.oG ?_ kf)⟩
     .have:l=L.length:=jb
      subst this
      simp(disch:=try exact jz) only[go_sem,z3,am]
      exact⟨t5,t63,t64,t65,Vl,hf4,hfe.le⟩
    .rintro _ tm4 σ4 ⟨rfl,t5,t63,t64,t65,Vl,hf4,hn4⟩
     simp(disch:=try exact jz) only[go_sem,z3,t5,t63,t64,t65]
     refine⟨e.a.length-(j+1),jb,j+1,rfl,jb,rfl,?_,hf4,jb⟩
     rw[Vl]
     exact bL (λl=>some (Bk.mk l none)) (bF λk _=>bL B.bool (hall k))
   .simp(disch:=try exact jz) only[go_sem,z3,am]
    exact hf
def lkC(o:Option Bk)(e j:Int):Option V:=match o with
 |some ⟨c,some (0,0)⟩=>bif I9 .i64 e&&I9 .i64 j then some (.c (.bool (hasB c e j)))else none
 |_=>none
def upC(o:Option Bk)(e j:Int):Option Bk:=match o with
 |some ⟨c,some (0,0)⟩=>bif I9 .i64 e&&(I9 .i64 j&&Nat.ble c.length 1000)then some ⟨c++[.int .i64 e,.int .i64 j],some (0,0)⟩else none
 |_=>none
def aje(m k x:O)(tm:Tr V)(σ:St):uH (.TD m k x) tm σ=match m.ev tm,k.ev tm,x.ev tm with
  |.c (.mp b),.agg [.int .i64 e,.int .i64 j],.c (.bool true)=>(match upC (σ.h b) e j with|some k=>some (.und,⟨hset σ.h b k,σ.aj⟩)|none=>none)
  |_,_,_=>none:=by
 simp only[uH]
 generalize m.ev tm=M
 generalize k.ev tm=Y
 generalize x.ev tm=X
 rcases M with⟨_|_|_|_|_|_|_|_|b|_⟩|_|_|_|_|_|_<;>try rfl
 rcases Y with _|l|_|_|_|_|_<;>try rfl
 rcases l with _|⟨p,_|⟨q,_|⟨_,_⟩⟩⟩<;>try rfl
 .cases p<;>try rfl
  next y e=>cases y<;>rfl
 .rcases p with⟨y,e⟩|_|_|_|_|_|_|_|_|_<;>try rfl
  cases y<;>try rfl
  rcases q with⟨y,j⟩|_|_|_|_|_|_|_|_|_<;>try rfl
  cases y<;>try rfl
  rcases X with⟨_|u|_|_|_|_|_|_|_|_⟩|_|_|_|_|_|_<;>try rfl
  cases u<;>try rfl
  dsimp only
  unfold upC
  generalize hg:σ.h.get b=G
  rcases G with _|⟨c,_|⟨u,v⟩⟩<;>try rfl
  cases u<;>try rfl
  cases v<;>try rfl
  cases hQ:I9 .i64 e&&(I9 .i64 j&&Nat.ble c.length 1000)with
  |true=>simp only[hQ,cD];rfl
  |false=>simp only[hQ,fP]
 .rcases p with⟨y,e⟩|_|_|_|_|_|_|_|_|_<;>try rfl
  cases y<;>try rfl
  rcases q with⟨y,j⟩|_|_|_|_|_|_|_|_|_<;>try rfl
  cases y<;>rfl
section
variable {E:Env} (tm:Tr V) (σ:St) (K:V→St→Prop)
def anu:wpOp E .JZ tm σ K=K (.c (.mp σ.aj)) ⟨hset σ.h σ.aj ⟨[],some (0,0)⟩,σ.aj+1⟩:=by unfold wpOp oV;simp only[vV.kind,uH,kJ]
def ajf(m k:O):wpOp E (.lookup m k) tm σ K=Gs (match m.ev tm,k.ev tm with|.c (.mp b),.agg [.int .i64 e,.int .i64 j]=>lkC (σ.h b) e j|_,_=>none) λv=>K v σ:=by rw[iF _ _ _ _ (by rfl) λ_ _ h=>by cases h];rfl
def asI(m k x:O):wpOp E (.TD m k x) tm σ K=match m.ev tm,k.ev tm,x.ev tm with
  |.c (.mp b),.agg [.int .i64 e,.int .i64 j],.c (.bool true)=>(match upC (σ.h b) e j with|some k=>K .und ⟨hset σ.h b k,σ.aj⟩|none=>False)
  |_,_,_=>False:=by
 unfold wpOp oV
 simp only[vV.kind,aje]
 generalize m.ev tm=M
 generalize k.ev tm=Y
 generalize x.ev tm=X
 rcases M with⟨_|_|_|_|_|_|_|_|b|_⟩|_|_|_|_|_|_<;>try rfl
 rcases Y with _|l|_|_|_|_|_<;>try rfl
 rcases l with _|⟨p,_|⟨q,_|⟨_,_⟩⟩⟩<;>try rfl
 .cases p<;>try rfl
  next y e=>cases y<;>rfl
 .rcases p with⟨y,e⟩|_|_|_|_|_|_|_|_|_<;>try rfl
  cases y<;>try rfl
  rcases q with⟨y,j⟩|_|_|_|_|_|_|_|_|_<;>try rfl
  cases y<;>try rfl
  rcases X with⟨_|u|_|_|_|_|_|_|_|_⟩|_|_|_|_|_|_<;>try rfl
  cases u<;>try rfl
  dsimp only
  cases upC (σ.h b) e j<;>rfl
 .rcases p with⟨y,e⟩|_|_|_|_|_|_|_|_|_<;>try rfl
  cases y<;>try rfl
  rcases q with⟨y,j⟩|_|_|_|_|_|_|_|_|_<;>try rfl
  cases y<;>rfl
end
def Qn:List Ins.Lg->List B
 |[]=>[]
 |x::r=>.int .i64 x.e:: .int .i64 x.k::Qn r
def acS:∀(l r:List Ins.Lg),Qn (l++r)=Qn l++Qn r
 |[],_=>rfl
 |x::l,r=>by show _::_::Qn (l++r)=_;rw[acS l r];rfl
def ajg(l:List Ins.Lg)(x:Ins.Lg):Qn l++[.int .i64 x.e,.int .i64 x.k]=Qn (l++[x]):=by rw[acS];rfl
def acT:∀l:List Ins.Lg,(Qn l).length=2*l.length
 |[]=>rfl
 |x::l=>by show(Qn l).length+1+1=_;rw[acT l,bX];omega
def Yh(e j:Int):∀l:List Ins.Lg,hasB (Qn l) e j=H8 l ⟨e,j⟩
 |[]=>rfl
 |x::l=>by
  show(bif eqI x.e e&&eqI x.k j then true else hasB (Qn l) e j)=(x.e==e&&x.k==j||H8 l ⟨e,j⟩)
  rw[Yh e j l];have h1:eqI x.e e=(x.e==e):=by rw[Bool.eq_iff_iff,TJ,beq_iff_eq]
  have h2:eqI x.k j=(x.k==j):=by rw[Bool.eq_iff_iff,TJ,beq_iff_eq]
  rw[h1,h2];cases(x.e==e&&x.k==j)<;>rfl
def LU{n:Nat}(h:n<=9223372036854775807):I9 .i64 (.ofNat n)=true:=fj h
def asJ(l:List Ins.Lg)(a b:Nat)(ha:a<=9223372036854775807)(hb:b<=9223372036854775807)(hl:l.length<=500):upC (some ⟨Qn l,some (0,0)⟩) (.ofNat a) (.ofNat b)=some ⟨Qn (l++[⟨.ofNat a,.ofNat b⟩]),some (0,0)⟩:=by have h2:Nat.ble (Qn l).length 1000=true:=fj (by rw[acT];omega);show(bif I9 .i64 (.ofNat a)&&(I9 .i64 (.ofNat b)&&Nat.ble (Qn l).length 1000)then _ else none)=_;rw[LU ha,LU hb,h2,<-ajg];rfl
def asK(l:List Ins.Lg)(a b:Nat)(ha:a<=9223372036854775807)(hb:b<=9223372036854775807):lkC (some ⟨Qn l,some (0,0)⟩) (.ofNat a) (.ofNat b)=some (.c (.bool (H8 l ⟨.ofNat a,.ofNat b⟩))):=by show(bif I9 .i64 (.ofNat a)&&I9 .i64 (.ofNat b)then some (V.c (.bool (hasB (Qn l) (.ofNat a) (.ofNat b))))else none)=_;rw[LU ha,LU hb,Yh];rfl
attribute [go_sem] anu ajf asI asJ asK
end Go.Proofs.Xe
