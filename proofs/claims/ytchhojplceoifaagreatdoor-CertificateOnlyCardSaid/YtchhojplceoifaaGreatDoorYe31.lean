import Derived.Test.YtchhojplceoifaaGreatDoorYe30
set_option linter.all false
set_option maxRecDepth 100000
set_option maxHeartbeats 8000000
namespace Go.Proofs.Xe
open Go.RowKit Go.Proofs.Ins
def apM(g:gB)(i:Nat):Rat:=(ix g.e i).m.q
def Y9(g:gB)(i c:Nat):Int:=(ix (ix g.e i).c c).h
def apR(g:gB)(x:Nat->Rat)(i c:Nat):Rat:=yu (aZ g) x (i,c)
def apN(g:gB)(x:Nat->Rat)(i c:Nat):Rat:=JA (aZ g) x (i,c)
abbrev asO(g:gB)(x:Nat->Rat)(i:Nat):Nat->Rat:=apA (apM g) (kE g.e) (Y9 g) (apR g x) (apN g x) i
abbrev ajc(g:gB)(x:Nat->Rat)(i c:Nat):Nat->Rat:=VY (apM g) (kE g.e) (Y9 g) (apR g x) (apN g x) i c
structure asP(D:Nat)(g:gB)(x:Nat->Rat):Prop where
 s:av4 D g x
 r:∀i,i<g.e.length->∀c,c<kE g.e i->Zk D 5000 (yu (aZ g) x (i,c))
 m:∀i,i<g.e.length->(ix g.e i).m.fits 1000000/\Zk D 1 (ix g.e i).m.q
 h:∀i,i<g.e.length->∀c,c<kE g.e i->(ix (ix g.e i).c c).h=.negSucc 0\/∃hh:Nat,(ix (ix g.e i).c c).h=.ofNat hh/\hh<g.e.length
def Vo:40000000000<=256^uK:=aw (by decide:40000000000<=256^5) (bL jj jj)
def ant{σ:St}(hW:WF σ){sb mb:Nat}{g:gB}{x:Nat->Rat}(hs:DW (Lt σ.aj) σ.h sb g)(hb:σ.h mb=some ⟨cO g.e.length x,none⟩){D:Nat}(hA:asP D g x):
  aC EN 103 [.c (.ptr sb 0),.c (.sl mb 0 g.e.length (.ex g.e.length))] σ λr σ'=>Ql σ σ' r g.e.length (asO g x g.e.length)/\Fr σ σ':=by
 refine aO (kT.o _ _) kT.h ?_
 unfold kT
 dsimp only
 have hN:=hA.s
 have hn:=hN.n
 simp(disch:=try exact jz) only[go_sem,z3]
 refine(O4 hW hs hb hN).mono ?_
 rintro r σ2 ⟨⟨cm,G,Dv,Rf,Nt,Su,Re,Fu,rfl,h1,h2,h3,h4,h5,h6,h7,h8⟩,hf2⟩
 obtain⟨⟨ev,Y8,lv,bv,hsb,hg,-,-⟩,hsl⟩:=hs
 have ai6:=hf2.get hW hsb
 have hle2:=hf2.le
 have k1:=aY.kn h1
 have k2:=h2.kn
 have k3:=h3.kn
 have k4:=h4.kn
 have k5:=h5.kn
 have k6:=aY.kn h6
 have k7:=aY.kn h7
 have k8:=aY.kn h8
 have Yf:=hg.e.len
 have hek:=hg.e.kn
 have hdk:=hg.d.kn
 have hsl:sb<σ.aj:=hsl
 have KN:=Fr.refl hf2.wf
 have hu:=Vo
 have hRN:∀i,i<g.e.length->∀c,c<kE g.e i->Zk D 5000 (apR g x i c)/\Zk D 5001 (apN g x i c):=λi hi c hc=>by have h1:=hA.r i hi c hc;have h2:=(hN.q i hi c hc).2;exact⟨h1,Zk.mono (Zk.sub h2 h1) jb⟩
 have hmZ:∀i,i<g.e.length->Zk D 1 (apM g i):=λi hi=>(hA.m i hi).2
 simp(disch:=try exact jz) only[go_sem,z3,k1,k2,k3,k4,k5,k6,k7,k8,ak ai6,Yf,hek,hdk]
 refine aF (λq tm σ'=>∃i,q=g.e.length-i/\i<=g.e.length/\Tr.ah tm 5=.c (.ptr σ2.aj 0)/\Tr.ah tm 6=.c (.sl (σ2.aj+1) 0 g.e.length (.ex g.e.length))/\Tr.ah tm 21=.c ev/\Tr.ah tm 22=.c (.int .i64 (.ofNat g.e.length))/\Tr.ah tm 23=.c (.int .i64 (.ofNat i))
  /\σ'.h σ2.aj=some ⟨[cm,G,Dv,Rf,Nt,Su,Re,Fu],none⟩/\σ'.h (σ2.aj+1)=some ⟨cO g.e.length (asO g x i),none⟩/\Fr σ2 σ'/\σ2.aj+1+1<=σ'.aj) g.e.length ?_ ?_
 .refine⟨0,jb,jb,?_⟩
  simp(disch:=try exact jz) only[go_sem,z3,am]
  exact⟨rfl,fr,jb⟩
 .rintro q tm σ' ⟨i,rfl,hi,t5,t6,t21,t22,t23,q5,q6,hf,hnx⟩
  have hle:=hf.le
  have hf0:=hf2.trans hf
  simp(disch:=try exact jz) only[go_sem,z3,t5,t6,t21,t22,t23,aG]
  refine aH (λhlt=>?_) (λhlt=>?_)
  .obtain⟨b5,o5,c5,rfl,C1,A1,bP,-,hC,hA1⟩:=hg.e.at hlt
   have bP:=hf0.ld hW bP
   have Vg:=aY.kn hC
   have hAk:=hA1.kn
   have hlC:=aY.len hC
   obtain⟨hm1,hm2⟩:=hA.m i hlt
   have hmf:=pG hm1 jj
   have hkk:=hN.k i hlt
   have hraw:rq (ix g.e i).m.n (ix g.e i).m.s (ix g.e i).m.d=apM g i:=rfl
   have z1:Sz (asO g x i i):=((aaZ (h:=Y9 g) hRN hmZ hN.k hi i).mono (l:=20000000000) jb).sz hN.hD jb
   have z1':=z1.two
   have hst:=aja (m:=apM g) (k:=kE g.e) (h:=Y9 g) (R:=apR g x) (N:=apN g x) g.e.length i
   have jm:=Fr.refl hf.wf
   simp(disch:=try exact jz) only[go_sem,z3,t5,t6,t21,t22,t23,bP,Vg,hAk,hlC,hmf,hraw,q6,ak q6,aI q6,z1',hst]
   refine bK.st (Fr σ2) (fr) λgU=>?_
   refine bK.mono (Q:=λex tm σ4=>ex=.exit 2/\Tr.ah tm 5=.c (.ptr σ2.aj 0)/\Tr.ah tm 6=.c (.sl (σ2.aj+1) 0 g.e.length (.ex g.e.length))/\Tr.ah tm 21=.c (.sl b5 o5 g.e.length c5)/\Tr.ah tm 22=.c (.int .i64 (.ofNat g.e.length))/\Tr.ah tm 23=.c (.int .i64 (.ofNat i))
     /\σ4.h σ2.aj=some ⟨[cm,G,Dv,Rf,Nt,Su,Re,Fu],none⟩/\σ4.h (σ2.aj+1)=some ⟨cO g.e.length (ajc g x i (kE g.e i)),none⟩/\Fr σ2 σ4/\σ2.aj+1+1<=σ4.aj)
    (aF (λq tm σ4=>∃c,q=kE g.e i-c/\c<=kE g.e i/\Tr.ah tm 5=.c (.ptr σ2.aj 0)/\Tr.ah tm 6=.c (.sl (σ2.aj+1) 0 g.e.length (.ex g.e.length))/\Tr.ah tm 7=.c (.int .i64 (.ofNat i))/\Tr.ah tm 21=.c (.sl b5 o5 g.e.length c5)/\Tr.ah tm 22=.c (.int .i64 (.ofNat g.e.length))/\Tr.ah tm 23=.c (.int .i64 (.ofNat i))
     /\Tr.ah tm 39=.c C1/\Tr.ah tm 40=.c (.int .i64 (.ofNat (kE g.e i)))/\Tr.ah tm 41=.c (.int .i64 (.ofNat c))
     /\σ4.h σ2.aj=some ⟨[cm,G,Dv,Rf,Nt,Su,Re,Fu],none⟩/\σ4.h (σ2.aj+1)=some ⟨cO g.e.length (ajc g x i c),none⟩/\Fr σ2 σ4/\σ2.aj+1+1<=σ4.aj) (kE g.e i) ?_ ?_) ?_
   .refine⟨0,jb,jb,?_⟩
    simp(disch:=try exact jz) only[go_sem,z3,t5,t6,t21,t22,t23,am]
    and_intros<;>try(first|rfl|omega|exact q5|exact gU|exact fr)
   .rintro q tm σ4 ⟨c,rfl,hc,t5,t6,t7,t21,t22,t23,t39,t40,t41,Vm,q64,hf4,hn4⟩
    have uo:=hf4.le
    simp(disch:=try exact jz) only[go_sem,z3,t5,t6,t7,t21,t22,t23,t39,t40,t41,aG]
    refine aH (λAm=>?_) (λAm=>?_)
    .obtain⟨b8,o8,c8,e8,-,lI⟩:=aY.pos hC (show 0<(ix g.e i).c.length by unfold kE at Am;omega)
     have lI:=(hf2.trans hf4).ld hW (lI c Am)
     have e8:C1=.sl b8 o8 (kE g.e i) c8:=e8
     rw[e8]at t39
     unfold c5B at lI
     obtain⟨bR,oR,cR,TR,eR,pR,hlR,hR⟩:=h4.at hlt
     obtain⟨bR2,oR2,cR2,eR2,pR2,ajd⟩:=aY.at3 hR Am
     obtain⟨bN,oN,cN,TN,eN,pN,hlN,hNt⟩:=h5.at hlt
     obtain⟨bN2,oN2,cN2,eN2,pN2,anu⟩:=aY.at3 hNt Am
     have hlR:=hf4.ld hf2.wf hlR
     have ajd:=hf4.ld hf2.wf ajd
     have hlN:=hf4.ld hf2.wf hlN
     have anu:=hf4.ld hf2.wf anu
     rw[eR2]at hlR
     rw[eN2]at hlN
     rw[eR,eN]at Vm
     obtain⟨hr1,hr2⟩:=hRN i hlt c Am
     have zB:=asM (h:=Y9 g) hRN hmZ hN.k hn hlt hc
     have z1:Sz (ajc g x i c i):=(zB i).sz hN.hD jb
     have z2:Sz (yu (aZ g) x (i,c)):=hr1.sz hN.hD jb
     have z3':Sz (JA (aZ g) x (i,c)):=hr2.sz hN.hD jb
     have Cc:=Fr.refl hf4.wf
     have hb8:=hf4.wf.dF lI
     have b1:=hf4.wf.dF hlR
     have b2:=hf4.wf.dF ajd
     have b3:=hf4.wf.dF hlN
     have b4:=hf4.wf.dF anu
     rcases hA.h i hlt c Am with hh|⟨hh,hh1,hh2⟩
     .have hst2:=anq (m:=apM g) (k:=kE g.e) (h:=Y9 g) (R:=apR g x) (N:=apN g x) (n:=g.e.length) (i:=i) (c:=c) hh
      simp(disch:=try exact jz) only[go_sem,z3,t5,t6,t7,t21,t22,t23,t39,t40,t41,lI,hlR,ajd,ak Vm,Vm,q64,ak q64,aI q64,hh]
      have a1:=bO (λl=>some (Bk.mk l none)) hst2
      have a2:(some (Bk.mk [cm,G,Dv,.sl bR oR g.e.length cR,.sl bN oN g.e.length cN,Su,Re,Fu] none):Option Bk)=some ⟨[cm,G,Dv,Rf,Nt,Su,Re,Fu],none⟩:=by rw[eR,eN]
      have a3:V.c (.sl b8 o8 (kE g.e i) c8)=V.c C1:=by rw[e8]
      refine⟨kE g.e i-(c+1),jb,c+1,rfl,jb,?_⟩
      and_intros<;>try(first|rfl|omega|exact a1|exact a2|exact a3|exact fr)
     .have hst2:=asL (m:=apM g) (k:=kE g.e) (h:=Y9 g) (R:=apR g x) (N:=apN g x) (n:=g.e.length) (i:=i) (c:=c) (hh:=hh) hh1
      have z4:Sz (aN (ajc g x i c) i (ajc g x i c i+yu (aZ g) x (i,c)) hh):=by
       unfold aN;split
       .exact((zB i).add hr1).sz hN.hD jb
       .exact(zB hh).sz hN.hD jb
      simp(disch:=try exact jz) only[go_sem,z3,t5,t6,t7,t21,t22,t23,t39,t40,t41,lI,hlR,ajd,hlN,anu,ak Vm,Vm,q64,ak q64,aI q64,hh1,mO]
      have a1:=bO (λl=>some (Bk.mk l none)) hst2
      have a2:(some (Bk.mk [cm,G,Dv,.sl bR oR g.e.length cR,.sl bN oN g.e.length cN,Su,Re,Fu] none):Option Bk)=some ⟨[cm,G,Dv,Rf,Nt,Su,Re,Fu],none⟩:=by rw[eR,eN]
      have a3:V.c (.sl b8 o8 (kE g.e i) c8)=V.c C1:=by rw[e8]
      refine⟨kE g.e i-(c+1),jb,c+1,rfl,jb,?_⟩
      and_intros<;>try(first|rfl|omega|exact a1|exact a2|exact a3|exact fr)
    .have:c=kE g.e i:=jb
     subst this
     simp(disch:=try exact jz) only[go_sem,z3,am]
     exact⟨t5,t6,t21,t22,t23,Vm,q64,hf4,hn4⟩
   .rintro _ tm σ4 ⟨rfl,t5,t6,t21,t22,t23,Vm,q64,hf4,hn4⟩
    simp(disch:=try exact jz) only[go_sem,z3,t5,t6,t21,t22,t23]
    exact⟨g.e.length-(i+1),jb,i+1,rfl,jb,rfl,Vm,q64,hf4,hn4⟩
  .have:i=g.e.length:=jb
   subst this
   simp(disch:=try exact jz) only[go_sem,z3,t6]
   exact⟨⟨_,rfl,q6,jb,jb⟩,hf0⟩
def Qr(W:Rat)(q r:Nat->Rat)(k:Nat):Rat:=nZ W (aB (k+1) q) (aB (k+1) r)-nZ W (aB k q) (aB k r)
def aa0(W:Rat):nZ W 0 0=0:=by grind[nZ]
theorem L9(W:Rat)(q r:Nat->Rat):∀m,aB m (Qr W q r)=nZ W (aB m q) (aB m r)
 |0=>(aa0 W).symm
 |m+1=>by rw[aB,L9 W q r m];unfold Qr;grind
def Si{W:Rat}{q r:fM->Rat}{a:fM}(j:Nat):∀{t:List fM}{Q R:Rat},jo W q r Q R (nZ W Q R) (t++[a]) j=jo W q r Q R (nZ W Q R) t j+if a.1=j then nZ W (Q+aK t q+q a) (R+aK t r+r a)-nZ W (Q+aK t q) (R+aK t r)else 0
 |[],Q,R=>by show(if a.1=j then nZ W (Q+q a) (R+r a)-nZ W Q R else 0)+0=0+if a.1=j then nZ W (Q+0+q a) (R+0+r a)-nZ W (Q+0) (R+0)else 0;grind
 |b::t,Q,R=>by rw[gS];unfold jo;rw[Si];show _=_+if a.1=j then nZ W (Q+(q b+aK t q)+q a) (R+(r b+aK t r)+r a)-nZ W (Q+(q b+aK t q)) (R+(r b+aK t r))else 0;rw[show Q+(q b+aK t q)=Q+q b+aK t q by grind,show R+(r b+aK t r)=R+r b+aK t r by grind];grind
section
variable (g:gB) (x:Nat→Rat)
def KO(i c:Nat):Rat:=yh (dX (ix g.e i)) (x i) c
def O8(j i c:Nat):Rat:=if uX (aZ g) j i c then KO g x i c else 0
def Qs(i c j b:Nat):Rat:=if b<i then aB (kE g.e b) (O8 g x j b)else if b=i then aB c (O8 g x j i)else 0
def mgP(t j b:Nat):Rat:=aB (kE g.e b) (O8 g x j b)+aK ((aZ g).ds.take t) (dM (aZ g) x j b)
def JF(t i:Nat)(u:Nat->Rat)(j b:Nat):Rat:=mgP g x t j b+if b<i then dM (aZ g) x j b (dW g t,dL g t)else if b=i then u j else 0
def Sj(t i k j:Nat):Rat:=jo (dW g t) (gq (aZ g) x) (gs (aZ g) x i) 0 0 0 ((dL g t).take k) j
def Sr(t k:Nat):Rat:=gq (aZ g) x (zK (ix (ix g.d t).l k))
def IJ(t i k:Nat):Rat:=gs (aZ g) x i (zK (ix (ix g.d t).l k))
end
section
variable {g:gB} {x:Nat→Rat}
def aje:Qs g x 0 0=λ_ _=>0:=by funext j b;unfold Qs;rw[ae jb];split<;>rfl
def ajf(i:Nat):Qs g x i (kE g.e i)=Qs g x (i+1) 0:=by
 funext j b;unfold Qs;by_cases h:b<i
 .grind
 .rw[ae h];by_cases h2:b=i
  .grind
  .rw[ae h2,ae jb];split<;>rfl
def anv{i c hh:Nat}(hl:(aZ g).fA.contains (i,c)=false)(hk:Y9 g i c=(hh:Int)):rO (rC (Qs g x i c)) hh i (gy (Qs g x i c hh i+KO g x i c))=rC (Qs g x i (c+1)):=by
 funext j b;have ho:O8 g x j i c=if j=hh then KO g x i c else 0:=by unfold O8 uX;grind[aZ,Y9]
 grind[rO,rC,Qs,aB]
def Yg{i c:Nat}(h:(aZ g).fA.contains (i,c)=true\/Y9 g i c=-1):Qs g x i c=Qs g x i (c+1):=by
 funext j b;have ho:O8 g x j i c=0:=by unfold O8 uX;grind[aZ,Y9]
 grind[Qs,aB]
def anw{n j b:Nat}(hb:b<n):Qs g x n 0 j b=mgP g x 0 j b:=by unfold Qs mgP;rw[ab hb,cM];exact(dc _).symm
def ajg(t:Nat):mgP g x t=JF g x t 0 λ_=>0:=by grind[JF]
def O9(t i:Nat):(JF g x t i λj=>dM (aZ g) x j i (dW g t,dL g t))=JF g x t (i+1) λ_=>0:=by grind[JF]
theorem ajh{t j b:Nat}(h:t<g.d.length):mgP g x (t+1) j b=mgP g x t j b+dM (aZ g) x j b (dW g t,dL g t):=by grind[mgP,bW,yw,mM,OZ]
def anx{t n j b:Nat}(h:t<g.d.length)(hb:b<n):JF g x t n (λ_=>0) j b=mgP g x (t+1) j b:=by grind[ajh,JF]
def anz{j b:Nat}:mgP g x g.d.length j b=gM g.e.length (aZ g) x j b:=by unfold mgP gM;rw[<-yw,cC];congr 1;refine aJ λc _=>?_;unfold O8;have e:gs (aZ g) x b (b,c)=KO g x b c:=ab rfl;rw[e]
def aji(t i:Nat):(λ_:Nat=>(0:Rat))=Sj g x t i 0:=by rfl
theorem JG(g:gB)(t:Nat):(dL g t).length=(ix g.d t).l.length:=di _
theorem ajj{t k:Nat}(hk:k<(ix g.d t).l.length):ix (dL g t) k=zK (ix (ix g.d t).l k):=X0 zK hk
def Vq(f:fM->Rat){t m:Nat}(hm:m<=(ix g.d t).l.length):aB m (λk=>f (zK (ix (ix g.d t).l k)))=aK ((dL g t).take m) f:=by grind[O1,JG,aJ,ajj]
def ajk{t i k j:Nat}(hk:k<(ix g.d t).l.length):Sj g x t i (k+1) j=Sj g x t i k j+if(zK (ix (ix g.d t).l k)).1=j then Qr (dW g t) (Sr g x t) (IJ g x t i) k else 0:=by unfold Sj;rw[bW (by grind[JG]),ajj hk];have h:=Si (W:=dW g t) (q:=gq (aZ g) x) (r:=gs (aZ g) x i) (a:=zK (ix (ix g.d t).l k)) j (t:=(dL g t).take k) (Q:=0) (R:=0);rw[aa0,gw,gw]at h;rw[h];unfold Qr;have e1:∀m,m<=(ix g.d t).l.length->aB m (Sr g x t)=aK ((dL g t).take m) (gq (aZ g) x):=λm hm=>Vq (gq (aZ g) x) hm;have e2:∀m,m<=(ix g.d t).l.length->aB m (IJ g x t i)=aK ((dL g t).take m) (gs (aZ g) x i):=λm hm=>Vq (gs (aZ g) x i) hm;rw[aB,aB,e1 k jb,e2 k jb];rfl
def anA{t i k e c:Nat}(hk:k<(ix g.d t).l.length)(Ci:ix (ix g.d t).l k=⟨.ofNat e,.ofNat c⟩):rO (rC (JF g x t i (Sj g x t i k))) e i (gy (JF g x t i (Sj g x t i k) e i+Qr (dW g t) (Sr g x t) (IJ g x t i) k))=rC (JF g x t i (Sj g x t i (k+1))):=by funext j b;have h:=ajk (x:=x) (i:=i) (j:=j) hk;rw[Ci]at h;have h:Sj g x t i (k+1) j=Sj g x t i k j+if e=j then Qr (dW g t) (Sr g x t) (IJ g x t i) k else 0:=h;grind[rO,rC,JF]
theorem acY{t i:Nat}(j:Nat):dM (aZ g) x j i (dW g t,dL g t)=(if F7 (aZ g) (dW g t,dL g t)=(j:Int)then aB (ix g.d t).l.length (IJ g x t i)-aB (ix g.d t).l.length (Qr (dW g t) (Sr g x t) (IJ g x t i))else 0)+Sj g x t i (ix g.d t).l.length j:=by unfold dM Sj;have e1:aB (ix g.d t).l.length (Sr g x t)=aK ((dL g t).take (ix g.d t).l.length) (gq (aZ g) x):=Vq (gq (aZ g) x) jp;have e2:aB (ix g.d t).l.length (IJ g x t i)=aK ((dL g t).take (ix g.d t).l.length) (gs (aZ g) x i):=Vq (gs (aZ g) x i) jp;grind[L9,JG]
def anB{t i hh:Nat}(hd:F7 (aZ g) (dW g t,dL g t)=(hh:Int)):rO (rC (JF g x t i (Sj g x t i (ix g.d t).l.length))) hh i (gy (JF g x t i (Sj g x t i (ix g.d t).l.length) hh i+(aB (ix g.d t).l.length (IJ g x t i)-aB (ix g.d t).l.length (Qr (dW g t) (Sr g x t) (IJ g x t i)))))=rC (JF g x t i λj=>dM (aZ g) x j i (dW g t,dL g t)):=by grind[rO,rC,JF,acY]
def Yh{t i:Nat}(hd:F7 (aZ g) (dW g t,dL g t)=-1):JF g x t i (Sj g x t i (ix g.d t).l.length)=JF g x t i λj=>dM (aZ g) x j i (dW g t,dL g t):=by
 have e:Sj g x t i (ix g.d t).l.length=λj=>dM (aZ g) x j i (dW g t,dL g t):=by grind[acY]
 rw[e]
end
structure Vr(D:Nat)(g:gB)(x:Nat->Rat):Prop where
 A:asP D g x
 r:∀i,i<g.e.length->ROk D (dX (ix g.e i)) (x i)
 s:∀i,i<g.e.length->∀c,c<kE g.e i->0<=KO g x i c/\Zk D 1 (KO g x i c)
def Vs{D:Nat}{W:Rat}{q r:fM->Rat}{j:Nat}:∀(t:List fM){Q R B:Rat}{K M:Nat},(∀a∈t,Zk D 1 (r a))->Zk D K R->Zk D K B->K+t.length<=M->Zk D (t.length*(2*M)) (jo W q r Q R B t j)
 |[],_,_,_,_,_,_,_,_,_=>Zk.zero.mono (bp _)
 |a::t,Q,R,B,K,M,hr,hR,hB,hM=>by
  rw[ce]at hM⊢;have ho:Zk D (K+1) (nZ W (Q+q a) (R+r a)):=by
   unfold nZ;split
   .exact hR.add (hr a kc)
   .exact Zk.zero.mono (bp _)
  have h1:=Vs (W:=W) (q:=q) (j:=j) (Q:=Q+q a) t (λb hb=>hr b (by simp[hb])) (hR.add (hr a kc)) ho (by omega:K+1+t.length<=M);rw[cB,fq];unfold jo;refine Zk.add ?_ h1;split
  .exact(ho.sub hB).mono jb
  .exact Zk.zero.mono (bp _)
section
variable {D:Nat} {g:gB} {x:Nat→Rat}
theorem Vr.gs(h:Vr D g x){t:Nat}(ht:t<g.d.length)(i:Nat):∀a∈dL g t,Zk D 1 (gs (aZ g) x i a)/\0<=gs (aZ g) x i a:=λa ha=>by
 obtain⟨y,hy,rfl⟩:=cV.mp ha;obtain⟨k,hk,rfl⟩:=aR hy;rw[<-fE hk];obtain⟨e,c,h1,h2,h3⟩:=(h.A.s.l t ht).2 k hk;rw[h1];unfold Ins.gs;obtain⟨h4,h5⟩:=h.s e h2 c h3;split
 .exact⟨h5,h4⟩
 .exact⟨Zk.zero.mono (bp _),bo⟩
def Vr.own(h:Vr D g x){j b c:Nat}(hb:b<g.e.length)(hc:c<kE g.e b):Zk D 1 (O8 g x j b c):=by
 unfold O8;split
 .exact(h.s b hb c hc).2
 .exact Zk.zero.mono (bp _)
def Vr.A'(h:Vr D g x){i c j b:Nat}(hb:b<g.e.length)(hc:b=i->c<=kE g.e b):Zk D 1000 (Qs g x i c j b):=by
 have hk:=h.A.s.k b hb;unfold Qs;split
 .exact(Zk.Ak λc hc=>h.own hb hc).mono hk
 .split
  .next e=>
   subst e;exact(Zk.Ak λc' hc'=>h.own hb jb).mono jb
  .exact Zk.zero.mono (bp _)
theorem Vr.dM(h:Vr D g x){t:Nat}(ht:t<g.d.length)(j i:Nat):Zk D 2002000 (dM (aZ g) x j i (dW g t,dL g t)):=by
 have hl:=(h.A.s.l t ht).1;have hlen:=JG g t;have hz:Zk D 1000 (aK (dL g t) (Ins.gs (aZ g) x i)):=(U4 λa ha=>(h.gs ht i a ha).1).mono jb;have hr:=Vs (W:=dW g t) (q:=gq (aZ g) x) (j:=j) (Q:=0) (K:=0) (M:=1000) (dL g t) (λa ha=>(h.gs ht i a ha).1) Zk.zero Zk.zero jb;unfold Ins.dM;refine Zk.mono (Zk.add (k:=2000) (l:=2000000) ?_ (hr.mono ?_)) jb
 .split
  .refine(hz.sub (l:=1000) ?_).mono jb;unfold nZ;split
   .exact hz
   .exact Zk.zero.mono (bp _)
  .exact Zk.zero.mono (bp _)
 omega
def Vr.U(h:Vr D g x){t:Nat}(ht:t<g.d.length)(i k j:Nat):Zk D 2002000 (Sj g x t i k j):=by have hl:=(h.A.s.l t ht).1;have hlen:=JG g t;have hr:=Vs (W:=dW g t) (q:=gq (aZ g) x) (j:=j) (Q:=0) (K:=0) (M:=1000) ((dL g t).take k) (λa ha=>(h.gs ht i a (et ha)).1) Zk.zero Zk.zero kd;refine hr.mono ?_;grind
def Vr.P(h:Vr D g x){t j b:Nat}(ht:t<=g.d.length)(hb:b<g.e.length):Zk D 2002001000 (mgP g x t j b):=by
 have hk:=h.A.s.k b hb;have hd:=h.A.s.d;have h1:Zk D 1000 (aB (kE g.e b) (O8 g x j b)):=(Zk.Ak λc hc=>h.own hb hc).mono hk;have h2:∀t,t<=g.d.length->Zk D (t*2002000) (aK ((aZ g).ds.take t) (Ins.dM (aZ g) x j b)):=λt=>by
  induction t with
  |zero=>intro _;exact Zk.zero.mono (bp _)
  |succ t ih=>
   intro ht
   rw[bW (by grind[yw]),mM,OZ ht,cB]
   exact(ih jb).add (h.dM ht j b)
 exact(h1.add (h2 t ht)).mono jb
def Vr.D'(h:Vr D g x){t i j b:Nat}{u:Nat->Rat}(ht:t<g.d.length)(hb:b<g.e.length)(hu:Zk D 2002000 (u j)):Zk D 2004003000 (JF g x t i u j b):=by
 unfold JF;refine Zk.mono (Zk.add (l:=2002000) (h.P (gm ht) hb) ?_) jb;split
 .exact h.dM ht j b
 .split
  .exact hu
  .exact Zk.zero.mono (bp _)
end
def afc{n:Nat}{tk:Int->Bool}{x:AZ}(h:aad n tk x=0):(x.k=Int.negSucc 0/\x.b=true\/∃c:Nat,c<n/\x.k=Int.ofNat c/\tk x.k=false)/\(x.b=true->¬sg x.a.q<0):=by
 unfold aad at h;split at h
 .cases h
 .split at h
  .cases h
  .split at h
   .cases h
   .split at h
    .cases h
    .next h1 h2 h3 h4=>
     refine⟨?_,λhb hs=>h3 ⟨hb,hs⟩⟩;by_cases e:x.k=-1
     .refine .inl ⟨e,?_⟩;cases hb:x.b with
      |true=>rfl
      |false=>exact absurd ⟨e,hb⟩ h2
     .obtain⟨c,hc⟩:=cw (show 0<=x.k by omega);refine .inr ⟨c,jb,hc,?_⟩;cases ht:tk x.k with
      |false=>rfl
      |true=>exact absurd ⟨e,ht⟩ h4
def afd{n:Nat}{tk:Int->Bool}{a:iI}(h:Xf n tk a=0):(a.length<=24/\∀i,i<a.length->(ix a i).length<=24)/\∀k,k<a.flatten.length->aad n tk (ix a.flatten k)=0:=by
 unfold Xf at h;split at h
 .cases h
 .next h1=>
  refine⟨Dj.mp (by simpa using h1),λk hk=>?_⟩;obtain⟨t,ht,hx⟩:=List.mem_flatten.mp (lQ hk);obtain⟨i,hi,rfl⟩:=aR ht;obtain⟨j,hj,e⟩:=aR hx;have:=iU (iU h i hi) j (by rw[fE hi];exact hj);rw[fE hi,fE hj,e]at this;exact this
def afe{σ:St}(hW:WF σ){p:Nat->Prop}{v:B}{n:Nat}{T:Nat->B}(hv:aY p σ.h 1 v n λi=>[T i])(hT:∀i,i<n->∃k:Nat,lenV (.c (T i))=some (.c (.int .i64 (.ofNat k)))/\k<=24)(hn:n<=1000):
  aC EN 212 [.c v,.fn 180 []] σ λr σ'=>r=.c (.int .i64 (.negSucc 0))/\Fr σ σ':=by
 refine aO (gu.o _ _) gu.h ?_
 unfold gu
 dsimp only
 have hlen:=aY.len hv
 have hc:=λ(args:List V) (σ:St) (K:V->St->Prop)=>iL (E:=EN) (K:=K) (jg.o args σ) jg.h
 unfold jg at hc
 dsimp only at hc
 simp(disch:=try exact jz) only[go_sem,z3,hlen]
 refine aF (λq tm σ'=>∃j,q=n-j/\j<=n/\Tr.ah tm 0=.c v/\Tr.ah tm 1=.fn 180 []/\Tr.ah tm 7=.c (.int .i64 (.ofNat n))/\Tr.ah tm 8=.c (.int .i64 (.ofNat j))/\Fr σ σ') n ?_ ?_
 .refine⟨0,jb,jb,?_⟩
  simp(disch:=try exact jz) only[go_sem,z3,am]
  exact Fr.refl hW
 .rintro q tm σ' ⟨j,rfl,hj,t0,t1,t7,t8,hf⟩
  simp(disch:=try exact jz) only[go_sem,z3,t0,t1,t7,t8,aG]
  refine aH (λhlt=>?_) (λhlt=>?_)
  .obtain⟨b,o,c,rfl,hld⟩:=HL.one (aY.hl hv) jb
   have hld:=hf.ld hW (hld j hlt)
   obtain⟨k,hk,hk2⟩:=hT j hlt
   have hd:decide ((Int.ofNat 24:Int)<Int.ofNat k)=false:=az (by show¬((24:Int)<(k:Int));omega)
   simp(disch:=try exact jz) only[go_sem,z3,t0,t1,t7,t8,hld,hc,hk,hd]
   exact⟨n-(j+1),jb,j+1,rfl,jb,rfl,hf⟩
  .have:j=n:=jb
   subst this
   simp(disch:=try exact jz) only[go_sem,z3,t0]
   exact hf
def ajm{E:Env}[aah E]{σ:St}(hW:WF σ){p:Nat->Prop}{v:B}{a:iI}(ha:fC p σ.h v a)(h1:a.length<=1000000)(h2:a.flatten.length<=1000000):
  aC E 181 [.c v] σ λr σ'=>(∃u,r=.c u/\Dk (Lt σ'.aj) σ'.h u a.flatten)/\Fr σ σ':=by
 by_cases h0:a.flatten.length=0
 .rw[X4 ha h1 h2 (v':=.c .aX) (σ':=σ) (ab h0)]
  exact⟨⟨_,rfl,.inl ⟨h0,rfl⟩⟩,Fr.refl hW⟩
 .rw[X4 ha h1 h2 (ae h0)]
  exact⟨⟨_,rfl,bf _ (aA _ _ _) (Df _ _ jj) (cg _) (λ_=>rfl) jj λ_ _=>rfl⟩,fr⟩
def awc{σ:St}(hW:WF σ){p:Nat->Prop}{v tv:B}{a:iI}{nc:Nat}{tk:Int->Bool}(ha:fC p σ.h v a)(ht:HL σ.h 1 tv nc λi=>[.bool (tk (Int.ofNat i))])(hn:nc<=1000)(hz:Xf nc tk a=0)(hnf:a.flatten.length<=1000000)(hfp:∀k,k<a.flatten.length->(ix a.flatten k).a.fits 1000000):
  aC EN 139 [.agg [v],.c tv] σ λr σ'=>r=.c (.int .i64 (.ofNat 0))/\Fr σ σ':=by
 refine aO (jv.o _ _) jv.h ?_
 unfold jv
 dsimp only
 obtain⟨⟨hl,hlt⟩,hc0⟩:=afd hz
 have ha':=ha
 obtain⟨T,hT,hP⟩:=ha'
 have hvk:=hT.kn
 have hvl:=aY.len hT
 have htk:=ht.kn
 have htl:=ht.len
 have hFr:=Fr.refl hW
 have hd:decide ((Int.ofNat 24:Int)<Int.ofNat a.length)=false:=az (by show¬((24:Int)<(a.length:Int));omega)
 have hcf:=λ(args:List V) (σ:St) (K:V->St->Prop)=>iL (E:=EN) (K:=K) (fD.o args σ) fD.h
 unfold fD at hcf
 dsimp only at hcf
 simp(disch:=try exact jz) only[go_sem,z3,hvk,hvl,htk,hd,hcf]
 refine aC.st (Fr σ) (fr) λhF=>?_
 refine(afe hF.wf (aY.fr hW hF hT) (λi hi=>⟨_,aY.len (hP i hi),hlt i hi⟩) jb).mono ?_
 rintro _ σ2 ⟨rfl,hf2⟩
 have hF2:=hF.trans hf2
 have q2:=hf2.get hF.wf (aA _ _ _)
 simp(disch:=try exact jz) only[go_sem,z3,show(Int.ofNat 0<=Int.negSucc 0)=False from propext ⟨λh=>absurd h jj,False.elim⟩,ak q2,hvk]
 refine(ajm hf2.wf (ha.fr hW hF2) jb hnf).mono ?_
 rintro _ σ3 ⟨⟨u,rfl,hu⟩,hf3⟩
 have hF3:=hF2.trans hf3
 have hul:=aY.len hu
 have huk:=aY.kn hu
 generalize a.flatten=l at*
 simp(disch:=try exact jz) only[go_sem,z3,hul,huk]
 refine aF (λq tm σ'=>∃j,q=l.length-j/\j<=l.length/\Tr.ah tm 1=.c tv/\Tr.ah tm 19=.c u/\Tr.ah tm 20=.c (.int .i64 (.ofNat l.length))/\Tr.ah tm 21=.c (.int .i64 (.ofNat j))/\Fr σ3 σ') l.length ?_ ?_
 .refine⟨0,jb,jb,?_⟩
  simp(disch:=try exact jz) only[go_sem,z3,am]
  exact Fr.refl hf3.wf
 .rintro q tm σ' ⟨j,rfl,hj,t1,t19,t20,t21,hf⟩
  simp(disch:=try exact jz) only[go_sem,z3,t1,t19,t20,t21,aG]
  refine aH (λhlt=>?_) (λhlt=>?_)
  .obtain⟨b,o,c,rfl,-,hld⟩:=aY.pos hu jb
   have hld:=hf.ld hf3.wf (hld j hlt)
   unfold BU at hld
   obtain⟨h1,h2⟩:=afc (hc0 j hlt)
   have hfit:=pG (hfp j hlt) jj
   have hraw:rq (ix l j).a.n (ix l j).a.s (ix l j).a.d=(ix l j).a.q:=rfl
   have hle:=hf.le
   have jm:=Fr.refl hf.wf
   rcases h1 with⟨e1,e2⟩|⟨k,hk,e1,e2⟩
   .rw[e1,e2]at hld
    have hsg:decide (sg (ix l j).a.q<Int.ofNat 0)=false:=az (h2 e2)
    simp(disch:=try exact jz) only[go_sem,z3,t1,t19,t20,t21,hld,hsg,hraw]
    exact⟨l.length-(j+1),jb,j+1,rfl,jb,rfl,fr⟩
   .rw[e1]at hld e2
    obtain⟨b2,o2,c2,rfl,EW⟩:=HL.one ht jb
    have EW:=(hF3.trans hf).ld hW (EW k hk)
    have hb2:=hf.wf.dF EW
    rw[e2]at EW
    have d1:decide (Int.ofNat k=Int.negSucc 0)=false:=rfl
    have d2:decide (Int.ofNat k<Int.ofNat 0)=false:=az (by show¬((k:Int)<0);omega)
    have d3:decide (Int.ofNat nc<=Int.ofNat k)=false:=az (by show¬((nc:Int)<=(k:Int));omega)
    cases hb:(ix l j).b with
    |true=>
     rw[hb]at hld
     have hsg:decide (sg (ix l j).a.q<Int.ofNat 0)=false:=az (h2 hb)
     simp(disch:=try exact jz) only[go_sem,z3,t1,t19,t20,t21,hld,hsg,hraw,d1,d2,d3,htl,EW]
     exact⟨l.length-(j+1),jb,j+1,rfl,jb,rfl,fr⟩
    |false=>
     rw[hb]at hld
     simp(disch:=try exact jz) only[go_sem,z3,t1,t19,t20,t21,hld,d1,d2,d3,htl,EW]
     exact⟨l.length-(j+1),jb,j+1,rfl,jb,rfl,fr⟩
  .simp(disch:=try exact jz) only[go_sem,z3,am]
   exact hF3.trans hf
def aff{x:C5}(h:Ur x=0): -1<=x.h/\x.h<8/\0<=x.r/\x.r<=7/\¬sg x.a.q<0:=by
 unfold Ur at h;split at h
 .cases h
 .split at h
  .cases h
  .split at h
   .cases h
   .omega
def afg{e:BR}(h:KH e=0):e.c.length<=24/\e.a.length<=12/\¬sg e.m.q<0/\(∀i,i<e.c.length->Ur (ix e.c i)=0)/\∀k,k<e.a.length->Xf e.c.length (zV e.a k) (ix e.a k)=0:=by
 unfold KH at h;split at h
 .cases h
 .split at h
  .cases h
  .split at h
   .next h3=>exact absurd h h3
   .next h1 h2 h3=>exact⟨jb,jb,h2,iU (by simpa using h3),iU h⟩
def tkS(f:Int->Bool)(L:List Int)(l k:Nat):Bool:=f (Int.ofNat k)||(L.take l).contains (Int.ofNat k)
def anC{n l c:Nat}{f:Int->Bool}{L:List Int}(hl:l<L.length)(hc:ix L l=Int.ofNat c):ones n (aN (λk=>B.bool (tkS f L l k)) c (.bool true))=ones n λk=>.bool (tkS f L (l+1) k):=bF λk _=>by
 unfold aN tkS;rw[bW hl,hc,List.contains_append];by_cases e:k=c
 .subst e;rw[ab rfl];simp
 .rw[ae e];have:([Int.ofNat c].contains (Int.ofNat k))=false:=by simp;omega
  rw[this];simp
def anD{l:List iI}{j:Nat}(hj:j<l.length)(k:Nat):tkS (zV l j) (wK (ix l j)) (wK (ix l j)).length k=zV l (j+1) (Int.ofNat k):=by unfold tkS;rw[cC,aey hj];congr 1;rw[Bool.eq_iff_iff,List.contains_iff_mem,qV];exact⟨λh=>h.2,λh=>⟨by show(k:Int)≠-1;omega,h⟩⟩
def awd{σ:St}(hW:WF σ){p:Nat->Prop}{e:BR}{C A:B}(hc:Ew p σ.h C e.c)(ha:jq p σ.h A e.a)(hz:KH e=0)(hm:e.m.fits 1000000)(hfc:∀k,k<e.c.length->(ix e.c k).a.fits 1000000)
  (hA:∀j,j<e.a.length->(ix e.a j).length<=1000/\(ix e.a j).flatten.length<=1000000/\(∀k,k<(ix e.a j).flatten.length->(ix (ix e.a j).flatten k).a.fits 1000000)/\∀t∈ix e.a j,∀x∈t,x.k=-1\/0<=x.k/\x.k<e.c.length):
  aC EN 84 [.agg [.bool e.m.n,.str e.m.s,.str e.m.d,C,A]] σ λr σ'=>r=.c (.int .i64 (.ofNat 0))/\Fr σ σ':=by
 refine aO (qX.o _ _) qX.h ?_
 unfold qX
 dsimp only
 obtain⟨h1,h2,h3,h4,h5⟩:=afg hz
 have hck:=aY.kn hc
 have hcl:=aY.len hc
 have hak:=ha.kn
 have hal:=ha.choose_spec.1.len
 have hFr:=Fr.refl hW
 have hfit:=pG hm jj
 have hraw:rq e.m.n e.m.s e.m.d=e.m.q:=rfl
 have hsg:decide (sg e.m.q<Int.ofNat 0)=false:=az h3
 have d1:decide ((Int.ofNat 24:Int)<Int.ofNat e.c.length)=false:=az (by show¬((24:Int)<(e.c.length:Int));omega)
 have d2:decide ((Int.ofNat 12:Int)<Int.ofNat e.a.length)=false:=az (by show¬((12:Int)<(e.a.length:Int));omega)
 simp(disch:=try exact jz) only[go_sem,z3,hck,hcl,hak,hal,hsg,hraw,d1,d2]
 refine bK.mono (Q:=λex tm σ'=>ex=.exit 1/\Tr.ah tm 1=.c (.ptr σ.aj 0)/\σ'.h σ.aj=some ⟨[.bool e.m.n,.str e.m.s,.str e.m.d,C,A],none⟩/\Fr σ σ'/\σ.aj+1<=σ'.aj)
  (aF (λq tm σ'=>∃i,q=e.c.length-i/\i<=e.c.length/\Tr.ah tm 1=.c (.ptr σ.aj 0)/\Tr.ah tm 28=.c C/\Tr.ah tm 29=.c (.int .i64 (.ofNat e.c.length))/\Tr.ah tm 30=.c (.int .i64 (.ofNat i))/\σ'.h σ.aj=some ⟨[.bool e.m.n,.str e.m.s,.str e.m.d,C,A],none⟩/\Fr σ σ'/\σ.aj+1<=σ'.aj) e.c.length ?_ ?_) ?_
 .refine⟨0,jb,jb,?_⟩
  simp(disch:=try exact jz) only[go_sem,z3,am]
  exact⟨fr,jp⟩
 .rintro q tm σ' ⟨i,rfl,hi,t1,t28,t29,t30,q1,hf,hnx⟩
  simp(disch:=try exact jz) only[go_sem,z3,t1,t28,t29,t30,aG]
  refine aH (λhlt=>?_) (λhlt=>?_)
  .obtain⟨b,o,c,rfl,-,hld⟩:=aY.pos hc jb
   have hld:=hf.ld hW (hld i hlt)
   unfold c5B at hld
   obtain⟨g1,g2,g3,g4,g5⟩:=aff (h4 i hlt)
   have hfit:=pG (hfc i hlt) jj
   have hraw:rq (ix e.c i).a.n (ix e.c i).a.s (ix e.c i).a.d=(ix e.c i).a.q:=rfl
   have hsg:decide (sg (ix e.c i).a.q<Int.ofNat 0)=false:=az g5
   have e1:decide ((ix e.c i).h<Int.negSucc 0)=false:=az (by show¬(ix e.c i).h< -1;omega)
   have e2:decide (Int.ofNat 8<=(ix e.c i).h)=false:=az (by show¬8<=(ix e.c i).h;omega)
   have e3:decide ((ix e.c i).r<Int.ofNat 0)=false:=az (by show¬(ix e.c i).r<0;omega)
   have e4:decide (Int.ofNat 7<(ix e.c i).r)=false:=az (by show¬7<(ix e.c i).r;omega)
   have hle:=hf.le
   have jm:=Fr.refl hf.wf
   have hl1:=hf.wf.lt q1
   simp(disch:=try exact jz) only[go_sem,z3,t1,t28,t29,t30,hld,hsg,hraw,e1,e2,e3,e4,q1]
   exact⟨e.c.length-(i+1),jb,i+1,rfl,jb,rfl,fr,jb⟩
  .simp(disch:=try exact jz) only[go_sem,z3,am]
   exact⟨t1,q1,hf,hnx⟩
 .rintro _ I5 σ1 ⟨rfl,t1,q1,hf1,hn1⟩
  have hle1:=hf1.le
  have ae2:=Fr.refl hf1.wf
  have hl1:=hf1.wf.lt q1
  simp(disch:=try exact jz) only[go_sem,z3,t1,ak q1,q1,hck,hcl,hak,hal]
  refine aF (λq tm σ'=>∃j,q=e.a.length-j/\j<=e.a.length/\Tr.ah tm 5=.c (.sl σ1.aj 0 e.c.length (.ex e.c.length))/\Tr.ah tm 63=.c A/\Tr.ah tm 64=.c (.int .i64 (.ofNat e.a.length))/\Tr.ah tm 65=.c (.int .i64 (.ofNat j))
   /\σ'.h σ1.aj=some ⟨ones e.c.length λk=>.bool (zV e.a j (Int.ofNat k)),none⟩/\Fr σ σ'/\σ1.aj+1<=σ'.aj) e.a.length ?_ ?_
  .refine⟨0,jb,jb,?_⟩
   simp(disch:=try exact jz) only[go_sem,z3,am]
   exact⟨rfl,fr,jp⟩
  .rintro q tm σ' ⟨j,rfl,hj,t5,t63,t64,t65,q5,hf,hnx⟩
   simp(disch:=try exact jz) only[go_sem,z3,t5,t63,t64,t65,aG]
   refine aH (λhlt=>?_) (λhlt=>?_)
   .obtain⟨b,o,c,rfl,T,hld,hT⟩:=ha.at hlt
    have hld:=hf.ld hW hld
    obtain⟨a1,a2,a3,a4⟩:=hA j hlt
    have Y6:=hT.kn
    have hle:=hf.le
    have jm:=Fr.refl hf.wf
    simp(disch:=try exact jz) only[go_sem,z3,t5,t63,t64,t65,hld,Y6]
    refine aC.st (Fr σ') (fr) λhF=>?_
    have q5F:=hF.get hf.wf q5
    have hTF:=hT.fr hW (hf.trans hF)
    refine(awc hF.wf hTF (aY.hl (p:=λ_=>True) (bf (G:=λk=>[.bool (zV e.a j (Int.ofNat k))]) (.ex e.c.length) q5F rfl trivial (λ_=>rfl) jj λ_ _=>rfl)) jb (h5 j hlt) a2 a3).mono ?_
    rintro _ σ2 ⟨rfl,hf2⟩
    have hF2:=hF.trans hf2
    have q7:=hf2.get hF.wf (aA _ _ _)
    have d0:decide ((0:Int)=Int.ofNat 0)=true:=rfl
    simp(disch:=try exact jz) only[go_sem,z3,ak q7,Y6,t5,d0]
    refine(RJ hf2.wf (hT.fr hW (hf.trans hF2)) jb a2).mono ?_
    rintro _ σ3 ⟨⟨u,rfl,hu⟩,hf3⟩
    have hF3:=hF2.trans hf3
    have hul:=hu.len
    have huk:=hu.kn
    have q53:=hF3.get hf.wf q5
    have hle3:=hF3.le
    have hle2:=hF2.le
    have hm9:=uI a4
    have hall:=anD hlt
    have hu2:=hu.hlp (p:=λb=>σ2.aj<=b) (λ_=>rfl) jj (λ_ _=>rfl) λb h1 _=>h1
    have azx:(wK (ix e.a j)).length<=1000000000:=by rw[<-OQ];exact aw (F9 a4) jb
    generalize wK (ix e.a j)=L at*
    have hz0:ones e.c.length (λk=>B.bool (zV e.a j (Int.ofNat k)))=ones e.c.length λk=>.bool (tkS (zV e.a j) L 0 k):=bF λk _=>by unfold tkS;rw[cM];simp
    rw[hz0]at q53
    have JH:=hf.trans hF3
    simp(disch:=try exact jz) only[go_sem,z3,hul,huk]
    refine bK.mono (Q:=λex tm σ4=>ex=.exit 6/\Tr.ah tm 5=.c (.sl σ1.aj 0 e.c.length (.ex e.c.length))/\Tr.ah tm 63=.c (.sl b o e.a.length c)/\Tr.ah tm 64=.c (.int .i64 (.ofNat e.a.length))/\Tr.ah tm 65=.c (.int .i64 (.ofNat j))
     /\σ4.h σ1.aj=some ⟨ones e.c.length λk=>.bool (tkS (zV e.a j) L L.length k),none⟩/\Fr σ σ4/\σ3.aj<=σ4.aj)
     (aF (λq tm σ4=>∃l,q=L.length-l/\l<=L.length/\Tr.ah tm 5=.c (.sl σ1.aj 0 e.c.length (.ex e.c.length))/\Tr.ah tm 63=.c (.sl b o e.a.length c)/\Tr.ah tm 64=.c (.int .i64 (.ofNat e.a.length))/\Tr.ah tm 65=.c (.int .i64 (.ofNat j))/\Tr.ah tm 76=.c u/\Tr.ah tm 77=.c (.int .i64 (.ofNat L.length))/\Tr.ah tm 78=.c (.int .i64 (.ofNat l))
     /\σ4.h σ1.aj=some ⟨ones e.c.length λk=>.bool (tkS (zV e.a j) L l k),none⟩/\Fr σ σ4/\aU [σ1.aj] σ3 σ4) L.length ?_ ?_) ?_
    .refine⟨0,jb,jb,?_⟩
     simp(disch:=try exact jz) only[go_sem,z3,t5,t63,t64,t65,am]
     exact⟨q53,JH,(Fr.refl hf3.wf).ex _⟩
    .rintro q tm σ4 ⟨l,rfl,hl,t5,t63,t64,t65,t76,t77,t78,Vm,hf4,hfe⟩
     simp(disch:=try exact jz) only[go_sem,z3,t5,t63,t64,t65,t76,t77,t78,aG]
     refine aH (λQj=>?_) (λQj=>?_)
     .obtain⟨b7,o7,c7,rfl,hp7,dw⟩:=aY.pos hu2 jb
      have hp7:σ2.aj<=b7:=hp7
      have dw:=hfe.ld hf3.wf (by simp;omega) (dw l Qj)
      have dw:=(vT dw).1
      obtain⟨m1,m2⟩:=hm9 _ (lQ Qj)
      obtain⟨cc,hcc⟩:=cw m1
      have hst:=anC (n:=e.c.length) (f:=zV e.a j) Qj hcc
      have ax6:ix L l=Int.ofNat cc:=hcc
      have hcn:cc<e.c.length:=jb
      have azy:=hf4.wf.lt Vm
      have uo:=hfe.le
      have Cc:=Fr.refl hf4.wf
      rw[ax6]at dw
      simp(disch:=try exact jz) only[go_sem,z3,t5,t63,t64,t65,t76,t77,t78,dw,Vm,aI Vm,hst]
      exact⟨L.length-(l+1),jb,l+1,rfl,jb,rfl,rfl,fr,by repeat(first|assumption|exact aU.refl (by assumption)|exact aU.up (by assumption) kf|exact aU.up (aU.refl (by assumption)) kf|refine aU.set1 ?_ kg kf|refine aU.kF ?_ kg|refine aU.nR ?_ kg|refine aU.oH ?_ kf)⟩
     .have:l=L.length:=jb
      subst this
      simp(disch:=try exact jz) only[go_sem,z3,am]
      exact⟨t5,t63,t64,t65,Vm,hf4,hfe.le⟩
    .rintro _ tm4 σ4 ⟨rfl,t5,t63,t64,t65,Vm,hf4,hn4⟩
     simp(disch:=try exact jz) only[go_sem,z3,t5,t63,t64,t65]
     refine⟨e.a.length-(j+1),jb,j+1,rfl,jb,rfl,?_,hf4,jb⟩
     rw[Vm]
     exact bO (λl=>some (Bk.mk l none)) (bF λk _=>bO B.bool (hall k))
   .simp(disch:=try exact jz) only[go_sem,z3,am]
    exact hf
def lkC(o:Option Bk)(e j:Int):Option V:=match o with
 |some ⟨c,some (0,0)⟩=>bif Ja .i64 e&&Ja .i64 j then some (.c (.bool (hasB c e j)))else none
 |_=>none
def upC(o:Option Bk)(e j:Int):Option Bk:=match o with
 |some ⟨c,some (0,0)⟩=>bif Ja .i64 e&&(Ja .i64 j&&Nat.ble c.length 1000)then some ⟨c++[.int .i64 e,.int .i64 j],some (0,0)⟩else none
 |_=>none
def ajn(m k x:O)(tm:Tr V)(σ:St):uN (.TK m k x) tm σ=match m.ev tm,k.ev tm,x.ev tm with
  |.c (.mp b),.agg [.int .i64 e,.int .i64 j],.c (.bool true)=>(match upC (σ.h b) e j with|some k=>some (.und,⟨hset σ.h b k,σ.aj⟩)|none=>none)
  |_,_,_=>none:=by
 simp only[uN]
 generalize m.ev tm=M
 generalize k.ev tm=Y
 generalize x.ev tm=X
 rcases M with⟨_|_|_|_|_|_|_|_|b|_⟩|_|_|_|_|_|_<;>try rfl
 rcases Y with _|l|_|_|_|_|_<;>try rfl
 rcases l with _|⟨p,_|⟨q,_|⟨_,_⟩⟩⟩<;>try rfl
 .cases p<;>try rfl
  next y e=>cases y<;>rfl
 .rcases p with⟨y,e⟩|_|_|_|_|_|_|_|_|_<;>try rfl
  cases y<;>try rfl
  rcases q with⟨y,j⟩|_|_|_|_|_|_|_|_|_<;>try rfl
  cases y<;>try rfl
  rcases X with⟨_|u|_|_|_|_|_|_|_|_⟩|_|_|_|_|_|_<;>try rfl
  cases u<;>try rfl
  dsimp only
  unfold upC
  generalize hg:σ.h.get b=G
  rcases G with _|⟨c,_|⟨u,v⟩⟩<;>try rfl
  cases u<;>try rfl
  cases v<;>try rfl
  cases hQ:Ja .i64 e&&(Ja .i64 j&&Nat.ble c.length 1000)with
  |true=>simp only[hQ,cD];rfl
  |false=>simp only[hQ,fT]
 .rcases p with⟨y,e⟩|_|_|_|_|_|_|_|_|_<;>try rfl
  cases y<;>try rfl
  rcases q with⟨y,j⟩|_|_|_|_|_|_|_|_|_<;>try rfl
  cases y<;>rfl
section
variable {E:Env} (tm:Tr V) (σ:St) (K:V→St→Prop)
def anE:wpOp E .J7 tm σ K=K (.c (.mp σ.aj)) ⟨hset σ.h σ.aj ⟨[],some (0,0)⟩,σ.aj+1⟩:=by unfold wpOp oV;simp only[vZ.kind,uN,kL]
def ajo(m k:O):wpOp E (.lookup m k) tm σ K=Gq (match m.ev tm,k.ev tm with|.c (.mp b),.agg [.int .i64 e,.int .i64 j]=>lkC (σ.h b) e j|_,_=>none) λv=>K v σ:=by rw[iG _ _ _ _ (by rfl) λ_ _ h=>by cases h];rfl
def asQ(m k x:O):wpOp E (.TK m k x) tm σ K=match m.ev tm,k.ev tm,x.ev tm with
  |.c (.mp b),.agg [.int .i64 e,.int .i64 j],.c (.bool true)=>(match upC (σ.h b) e j with|some k=>K .und ⟨hset σ.h b k,σ.aj⟩|none=>False)
  |_,_,_=>False:=by
 unfold wpOp oV
 simp only[vZ.kind,ajn]
 generalize m.ev tm=M
 generalize k.ev tm=Y
 generalize x.ev tm=X
 rcases M with⟨_|_|_|_|_|_|_|_|b|_⟩|_|_|_|_|_|_<;>try rfl
 rcases Y with _|l|_|_|_|_|_<;>try rfl
 rcases l with _|⟨p,_|⟨q,_|⟨_,_⟩⟩⟩<;>try rfl
 .cases p<;>try rfl
  next y e=>cases y<;>rfl
 .rcases p with⟨y,e⟩|_|_|_|_|_|_|_|_|_<;>try rfl
  cases y<;>try rfl
  rcases q with⟨y,j⟩|_|_|_|_|_|_|_|_|_<;>try rfl
  cases y<;>try rfl
  rcases X with⟨_|u|_|_|_|_|_|_|_|_⟩|_|_|_|_|_|_<;>try rfl
  cases u<;>try rfl
  dsimp only
  cases upC (σ.h b) e j<;>rfl
 .rcases p with⟨y,e⟩|_|_|_|_|_|_|_|_|_<;>try rfl
  cases y<;>try rfl
  rcases q with⟨y,j⟩|_|_|_|_|_|_|_|_|_<;>try rfl
  cases y<;>rfl
end
def Qu:List Ins.Lg->List B
 |[]=>[]
 |x::r=>.int .i64 x.e:: .int .i64 x.k::Qu r
def acZ:∀(l r:List Ins.Lg),Qu (l++r)=Qu l++Qu r
 |[],_=>rfl
 |x::l,r=>by show _::_::Qu (l++r)=_;rw[acZ l r];rfl
def ajp(l:List Ins.Lg)(x:Ins.Lg):Qu l++[.int .i64 x.e,.int .i64 x.k]=Qu (l++[x]):=by rw[acZ];rfl
def ac0:∀l:List Ins.Lg,(Qu l).length=2*l.length
 |[]=>rfl
 |x::l=>by show(Qu l).length+1+1=_;rw[ac0 l,ce];omega
def Yi(e j:Int):∀l:List Ins.Lg,hasB (Qu l) e j=H9 l ⟨e,j⟩
 |[]=>rfl
 |x::l=>by
  show(bif eqI x.e e&&eqI x.k j then true else hasB (Qu l) e j)=(x.e==e&&x.k==j||H9 l ⟨e,j⟩)
  rw[Yi e j l];have h1:eqI x.e e=(x.e==e):=by rw[Bool.eq_iff_iff,TP,beq_iff_eq]
  have h2:eqI x.k j=(x.k==j):=by rw[Bool.eq_iff_iff,TP,beq_iff_eq]
  rw[h1,h2];cases(x.e==e&&x.k==j)<;>rfl
def Mc{n:Nat}(h:n<=9223372036854775807):Ja .i64 (.ofNat n)=true:=fj h
def asR(l:List Ins.Lg)(a b:Nat)(ha:a<=9223372036854775807)(hb:b<=9223372036854775807)(hl:l.length<=500):upC (some ⟨Qu l,some (0,0)⟩) (.ofNat a) (.ofNat b)=some ⟨Qu (l++[⟨.ofNat a,.ofNat b⟩]),some (0,0)⟩:=by have h2:Nat.ble (Qu l).length 1000=true:=fj (by rw[ac0];omega);show(bif Ja .i64 (.ofNat a)&&(Ja .i64 (.ofNat b)&&Nat.ble (Qu l).length 1000)then _ else none)=_;rw[Mc ha,Mc hb,h2,<-ajp];rfl
def asT(l:List Ins.Lg)(a b:Nat)(ha:a<=9223372036854775807)(hb:b<=9223372036854775807):lkC (some ⟨Qu l,some (0,0)⟩) (.ofNat a) (.ofNat b)=some (.c (.bool (H9 l ⟨.ofNat a,.ofNat b⟩))):=by show(bif Ja .i64 (.ofNat a)&&Ja .i64 (.ofNat b)then some (V.c (.bool (hasB (Qu l) (.ofNat a) (.ofNat b))))else none)=_;rw[Mc ha,Mc hb,Yi];rfl
attribute [go_sem] anE ajo asQ asR asT
end Go.Proofs.Xe
