import Derived.Test.YtchhojplceoifaaGreatDoorYd29
set_option linter.all false
set_option maxRecDepth 100000
set_option maxHeartbeats 8000000
namespace Go.Proofs.Xe
open Go.RowKit Go.Proofs.Ins
def rkG(cs:List C5)(bs:Nat->Nat)(k r:Nat):List B:=kF (aV (BO cs r k).length (bs r)) (aW (BO cs r k))
structure RkS(σ:St)(rb:Nat)(bs:Nat->Nat)(cs:List C5)(k lo:Nat):Prop where
 b:σ.h rb=some ⟨bC 8 (rkG cs bs k),none⟩
 o:∀r,r<8->PU σ.h (bs r) (BO cs r k)
 l:∀r,r<8->(BO cs r k).length=0\/lo<=bs r/\bs r<σ.aj
 i:∀r r',r<8->r'<8->r≠r'->(BO cs r k).length=0\/(BO cs r' k).length=0\/bs r≠bs r'
def RkS.on{σ σ':St}{rb lo k:Nat}{bs:Nat->Nat}{cs:List C5}(h:RkS σ rb bs cs k lo)(hrb:σ'.h rb=σ.h rb)(hf:∀b,lo<=b->b<σ.aj->σ'.h b=σ.h b)(hle:σ.aj<=σ'.aj):RkS σ' rb bs cs k lo:=by
 refine⟨by rw[hrb];exact h.b,λr hr=>?_,λr hr=>by have:=h.l r hr;omega,h.i⟩;refine(wY ?_).trans (h.o r hr);rcases h.l r hr with h1|h1
 .omega
 grind
theorem RkS.fr{σ σ':St}{rb lo k:Nat}{bs:Nat->Nat}{cs:List C5}(h:RkS σ rb bs cs k lo)(hrb:rb<σ.aj)(hf:Fr σ σ'):RkS σ' rb bs cs k lo:=h.on (hf.old _ hrb) (λb _ hb=>hf.old b hb) hf.le
def atO{σ:St}(hW:WF σ){rb lo k r:Nat}{bs:Nat->Nat}{cs:List C5}(h:RkS σ rb bs cs k lo)(hrb:rb<lo)(hlo:lo<=σ.aj)(hr:r<8)(hk:(ix cs k).r=(r:Int))(hk1:k<=1000000)(hs:Sz (aW (BO cs r k)))(hq:Sz (ix cs k).a.q):
  aC EN 142 [.c (.ptr rb (r*4)),.c (.int .i64 (.ofNat k)),.agg [.bool (rn (ix cs k).a.q),.str (rs (ix cs k).a.q),.str (rd (ix cs k).a.q)]] σ λ_ σ'=>(∃bs',RkS σ' rb bs' cs (k+1) lo)/\(∀b,b<σ.aj->b≠rb->(BO cs r k).length=0\/b≠bs r->σ'.h b=σ.h b)/\WF σ'/\σ.aj<=σ'.aj:=by
 have hl:=h.l r hr
 have hlen:=Np cs r k
 obtain⟨b0,hb0,hb1⟩:∃b0,(∀c,aV (BO cs r k).length c=aV (BO cs r k).length b0\/c≠bs r)/\((BO cs r k).length=0/\b0=rb\/0<(BO cs r k).length/\b0=bs r):=by
  by_cases e:(BO cs r k).length=0
  .exact⟨rb,λc=>.inl (by rw[e];rfl),.inl ⟨e,rfl⟩⟩
  .exact⟨bs r,λc=>by grind,.inr ⟨jb,rfl⟩⟩
 have hT:PU σ.h b0 (BO cs r k):=by
  have:=h.o r hr;unfold PU at this⊢;rw[<-this];rcases hb1 with⟨e,-⟩|⟨-,e⟩
  .rw[e];rfl
  .rw[e]
 have hGr:rkG cs bs k r=kF (aV (BO cs r k).length b0) (aW (BO cs r k)):=by grind[rkG]
 refine(ajF hW h.b hr (λ_=>rfl) rfl rfl hGr hT jb jb jb k _ hs hq).mono ?_
 rintro _ σ' ⟨nx,h1,h2,h3,h4,h5⟩
 have hle:=h5.le
 have e1:BO cs r (k+1)=BO cs r k++[((k:Int),(ix cs k).a.q)]:=by grind[BO]
 have e2:∀r',r'≠r->BO cs r' (k+1)=BO cs r' k:=λr' hne=>by grind[BO]
 refine⟨⟨aN bs r nx,?_,λr' hr'=>?_,λr' hr'=>?_,λa b ha hb hab=>?_⟩,λb hb hne hn2=>h5.old b hb ?_,h5.wf,hle⟩
 .rw[h3]
  congr 2
  refine bH λr' hr'=>?_
  unfold iP rkG
  by_cases e:r'=r
  .subst e
   rw[ae rfl,aK,e1,TL,aD];rfl
  grind[aS]
 .by_cases e:r'=r
  .subst e
   rw[aK,e1]
   unfold PU
   rw[aD,bX]
   show σ'.h nx=some _
   grind[Go.Proofs.Xe.jr,Go.Proofs.Xe.bH,Go.Proofs.Xe.iP,Go.Proofs.Xe.gW,Go.Proofs.Xe.gV]
  .rw[aS _ _ _ _ e,e2 r' e]
   refine(wY ?_).trans (h.o r' hr')
   have h6:=h.l r' hr'
   have h7:=h.i r' r hr' hr e
   by_cases e0:(BO cs r' k).length=0
   .exact .inl e0
   .refine .inr (h5.old _ jb ?_)
    simp;omega
 .by_cases e:r'=r
  .subst e;rw[aK];omega
  .rw[aS _ _ _ _ e,e2 r' e]
   have:=h.l r' hr';omega
 .by_cases ea:a=r
  .subst ea
   rw[aK,aS _ _ _ _ (Ne.symm hab),e2 b (Ne.symm hab)]
   have:=h.l b hb;omega
  .by_cases eb:b=r
   .subst eb
    rw[aK,aS _ _ _ _ ea,e2 a ea]
    have:=h.l a ha;omega
   .rw[aS _ _ _ _ ea,aS _ _ _ _ eb,e2 a ea,e2 b eb]
    exact h.i a b ha hb hab
 grind
def RkS.atI{σ:St}{rb lo:Nat}{bs:Nat->Nat}{cs:List C5}(h:RkS σ rb bs cs cs.length lo){p:Nat->Prop}(hp:p rb)(hp2:∀b,lo<=b->b<σ.aj->p b):zH p σ.h (.sl rb 0 8 (.ex 8)) (QN cs cs.length):=by
 have hix:∀r,r<8->ix (QN cs cs.length) r=BO cs r cs.length:=λr hr=>by grind[QN,dS]
 have h8:(QN cs cs.length).length=8:=by rfl
 refine⟨λr=>aV (BO cs r cs.length).length (bs r),?_,cM 8,λr hr=>?_⟩
 .rw[h8];refine(bD (G:=rkG cs bs cs.length) _ h.b rfl hp (λ_=>rfl) jj λr hr=>?_).congr λr hr=>by grind[rkG]
  grind[rkG,kF,uY,zW,MI]
 .rw[h8]at hr;rw[hix r hr];exact(h.o r hr).hlp (by rcases h.l r hr with h1|h1;exact .inl h1;grind)
structure Qa(A:Nat)(e:vM):Prop where
 nc:e.c.length<=1000
 na:e.a.length<=1000
 r:∀k,k<e.c.length->∃r:Nat,r<8/\(ix e.c k).r=Int.ofNat r
 fc:∀k,k<e.c.length->(ix e.c k).a.fits 1000000
 c:∀k,Jd A (ix e.c k).a.q
 a:∀j,j<e.a.length->ajY A e.c (ix e.a j)
def nK(e:vM)(k:Nat):Rat:=aB k λi=>(ix e.c i).a.q
def adK{A:Nat}{f:Nat->Rat}(hf:∀i,Jd A (f i)):∀n,dV A (aB n f)/\0<=aB n f/\aB n f<=(n:Rat)*uQ
 |0=>⟨dV.zero A,aY,by show(0:Rat)<=((0:Nat):Rat)*uQ;simp⟩
 |n+1=>by
  obtain⟨h1,h2,h3⟩:=adK hf n;have h4:=hf n;rw[gb];have:((1:Nat):Rat)=1:=rfl;refine⟨h1.add h4.1,?_,?_⟩
  .show 0<=aB n f+f n;grind
  .show aB n f+f n<=_;grind
def atP{A:Nat}(hA:CS A){f:Nat->Rat}(hf:∀i,Jd A (f i)){n:Nat}(hn:n<=10000):Sz (aB n f):=by obtain⟨h1,h2,h3⟩:=adK hf n;have hU:=GU (k:=10000) jj;have h4:(n:Rat)<=((10000:Nat):Rat):=br.mpr hn;have h5:=bj h4 PY;exact(oW hA (im A) h1 h2 kd).sz hA (by grind[tq])
def adL(M L:Nat->B)(cs:List C5)(al:List fC)(p:Nat->Prop)(h:Tr Bk)(j:Nat):Prop:=abu p h (M j) (kG (ix al j))/\zH p h (L j) (pV cs (ix al j)).2
abbrev aqu(M L:Nat->B)(cs:List C5)(al:List fC)(h:Tr Bk)(b n lo hi:Nat):Prop:=NF (adL M L cs al) h b n (λj=>[M j,L j]) 2 202 lo hi
def Nq(M L:Nat->B)(cs:List C5)(al:List fC)(j:Nat):QK (adL M L cs al) j:=λ_ _ _ _ hp hk hq=>⟨aX.keep hp.1 hk hq,hp.2.keep hk hq⟩
def abG(M L:Nat->B):LG (λj=>[M j,L j]) 2:=λ_=>rfl
def lN{E:Env}{f:Nat}{args:List V}{σ:St}{F:AF}{K:V->St->Prop}(ho:E.Xh f args σ=none)(hF:E.fns f=some F):aC E f args σ K=bM E F.body (ini args) σ (aaG F.res K):=by
 refine propext ⟨?_,aP ho hF⟩;rintro⟨n,v,σ',h1,h2⟩;cases n with
 |zero=>grind[jc]
 |succ n=>
  rw[jc]at h1
  unfold Il at h1
  rw[ho,hF]at h1
  dsimp only at h1
  rw[aaF]at h1
  dsimp only at h1
  unfold aez at h1
  split at h1
  .next tm τ e=>
   split at h1
   .next u hu=>cases h1;exact⟨n,_,tm,_,e,_,hu,h2⟩
   grind
  .next tm τ e=>
   split at h1
   .next u hu=>cases h1;exact⟨n,_,tm,_,e,_,hu,h2⟩
   grind
  grind
section
variable (dI bV tm:Tr V) (σ:St) (res:List Rs) (pd:List iR)
def aj0(i:Nat)(us os:List Nat)(d:Option Nat)(g:Option (Nat×Bool))(bytes:Nat)(z:List B)(a c:O)(l:List DO)(K:St->List Rs->List iR->Prop):
  vY dI bV (⟨i,us,os,⟨d,g,.Lm bytes z a c⟩⟩::l) σ res pd K=match Oe dI bV res us os with
   |some tm=>CQ g tm (match KP (a.ev tm),KP (c.ev tm)with
    |some n,some m=>(bif Nat.ble n m&&(Nat.ble (bytes*m) 281474976710656&&Nat.ble m 1073741824)then vY dI bV l ⟨hset σ.h σ.aj ⟨rep z m,none⟩,σ.aj+1⟩ (⟨i,d,.c (.sl σ.aj 0 n (.ex m))⟩::res) (⟨i,⟨d,g,.Lm bytes z a c⟩,tm,.c (.sl σ.aj 0 n (.ex m)),true,some σ.aj⟩::pd) K else False)
    |_,_=>False) (vY dI bV l σ (⟨i,d,.tnil⟩::res) (⟨i,⟨d,g,.Lm bytes z a c⟩,tm,.tnil,false,none⟩::pd) K)
   |none=>False:=by
 unfold vY CQ
 rw[yP]
 dsimp only
 cases Oe dI bV res us os with
 |none=>rfl
 |some tm=>
  grind[wM.kind,oz,lT]
def abH(i:Nat)(d:Option Nat)(g9:Option (Nat×Bool))(bytes:Nat)(z:List B)(a c:O)(v:V)(b:Nat):again σ ⟨i,⟨d,g9,.Lm bytes z a c⟩,tm,v,true,some b⟩=match KP (a.ev tm),KP (c.ev tm)with
  |some n,some m=>(bif Nat.ble n m&&(Nat.ble (bytes*m) 281474976710656&&Nat.ble m 1073741824)then(match σ.h b with|some ⟨c,none⟩=>Oc c (rep z m)|_=>false)else false)
  |_,_=>false:=by
 grind[again,wM.kind,oz]
end
def aj1(n:Nat)(f:Nat->Bool):(ones n λi=>.bool (f i)).all B.kn=true:=aaU λ_=>rfl
attribute [go_sem] aj0 abH aj1
def xB{E:Env}{a b:AC}{tm:Tr V}{σ:St}{Q:AX->Tr V->St->Prop}(P:Tr V->St->Prop)(h:bM E a tm σ λe tm' σ'=>e=.normal/\P tm' σ')(h2:∀tm' σ',P tm' σ'->bM E b tm' σ' Q):bM E (.seq a b) tm σ Q:=
 run_seq (h.mono (by rintro _ tm' σ' ⟨rfl,hp⟩;exact h2 _ _ hp))
def Qb{E:Env}{a b c:AC}{tm:Tr V}{σ:St}{Q:AX->Tr V->St->Prop}(P:Tr V->St->Prop)(h:bM E a tm σ (U5 E b λe tm' σ'=>e=.normal/\P tm' σ'))(h2:∀tm' σ',P tm' σ'->bM E c tm' σ' Q):bM E (.seq a (.seq b c)) tm σ Q:=
 run_seq (h.mono λe tm' σ' he=>by
  cases e with
  |normal=>exact xB P he h2
  |exit i=>cases he.1
  |ret=>cases he.1)
def Jf{E:Env}{b:AC}{tm:Tr V}{σ:St}{Q:AX->Tr V->St->Prop}(h:bM E b tm σ Q):bM E .skip tm σ (U5 E b Q):=XB h
def axo{σ:St}(hW:WF σ){p p':Nat->Prop}{x1 x2 x3 C Av:B}{e:vM}(hC:oL p σ.h C e.c)(hA:iG p' σ.h Av e.a)(h1:x1.kn=true)(h2:x2.kn=true)(h3:x3.kn=true){A:Nat}(hD:CS A)(hO:Qa A e):
  aC EN 86 [.agg [x1,x2,x3,C,Av]] σ λr σ'=>(∃rv pv,r=.agg (jJ e.c.length rv pv (nK e e.c.length))/\zI (λb=>σ.aj<=b/\b<σ'.aj) σ'.h rv pv (bY e))/\Fr σ σ':=by
 refine aP (wu.o _ _) wu.h ?_
 unfold wu
 dsimp only
 have LK:=aX.kn hC
 have hAk:=hA.kn
 have IY:=aX.len hC
 have hlenA:=hA.len
 have hnc:=hO.nc
 have hna:=hO.na
 have hFr:=Fr.refl hW
 simp(disch:=try exact jz) only[go_sem,z3,h1,h2,h3,LK,hAk,IY]
 refine bM.mono (Q:=λex tm σ'=>ex=.exit 0/\∃bs,Tr.ah tm 1=.c (.ptr σ.aj 0)/\Tr.ah tm 2=.c (.ptr (σ.aj+1) 0)/\Tr.ah tm 3=.c (.ptr (σ.aj+1+1+1) 0)
   /\σ'.h σ.aj=some ⟨[x1,x2,x3,C,Av],none⟩/\σ'.h (σ.aj+1)=some ⟨[.int .i64 (.ofNat 0),.aO,.aO,.bool (rn 0),.str (rs 0),.str (rd 0)],none⟩/\σ'.h (σ.aj+1+1+1)=some ⟨jJ e.c.length (.sl (σ.aj+1+1) 0 8 (.ex 8)) .aO (nK e e.c.length),none⟩/\RkS σ' (σ.aj+1+1) bs e.c e.c.length (σ.aj+1+1+1+1)/\Fr σ σ'/\σ.aj+1+1+1+1<=σ'.aj)
  (aF (λq tm σ'=>∃k bs,q=e.c.length-k/\k<=e.c.length/\Tr.ah tm 1=.c (.ptr σ.aj 0)/\Tr.ah tm 2=.c (.ptr (σ.aj+1) 0)/\Tr.ah tm 3=.c (.ptr (σ.aj+1+1+1) 0)/\Tr.ah tm 15=.c C/\Tr.ah tm 16=.c (.int .i64 (.ofNat e.c.length))/\Tr.ah tm 17=.c (.int .i64 (.ofNat k))
   /\σ'.h σ.aj=some ⟨[x1,x2,x3,C,Av],none⟩/\σ'.h (σ.aj+1)=some ⟨[.int .i64 (.ofNat 0),.aO,.aO,.bool (rn 0),.str (rs 0),.str (rd 0)],none⟩/\σ'.h (σ.aj+1+1+1)=some ⟨jJ e.c.length (.sl (σ.aj+1+1) 0 8 (.ex 8)) .aO (nK e k),none⟩/\RkS σ' (σ.aj+1+1) bs e.c k (σ.aj+1+1+1+1)/\Fr σ σ'/\σ.aj+1+1+1+1<=σ'.aj) e.c.length ?_ ?_) ?_
 .refine⟨0,λ_=>0,jb,jb,?_⟩
  simp(disch:=try exact jz) only[go_sem,z3,am]
  refine⟨rfl,⟨?_,λr hr=>rfl,λr hr=>.inl rfl,λr r' _ _ _=>.inl rfl⟩,fr,jb⟩
  simp(disch:=omega) only[ak,aA];rfl
 .rintro q tm σ' ⟨k,bs,rfl,hk,t1,t2,t3,t15,t16,t17,q0,q1,q3,hR,hf,hnx⟩
  have hle:=hf.le
  simp(disch:=try exact jz) only[go_sem,z3,t1,t2,t3,t15,t16,t17,aG]
  refine aH (λhlt=>?_) (λhlt=>?_)
  .obtain⟨b5,o5,c5,rfl,-,bf⟩:=aX.pos hC jb
   have bf:=hf.ld hW (bf k hlt)
   unfold WW at bf
   have hfit:=qy (hO.fc k hlt) jj
   have hz:=Sz.zero.two
   have hraw:rq (ix e.c k).a.n (ix e.c k).a.s (ix e.c k).a.d=(ix e.c k).a.q:=rfl
   obtain⟨r,hr,hrk⟩:=hO.r k hlt
   have hqz:=P8 hD (hO.c k)
   have lK:=Fr.refl hf.wf
   have hrb:=hR.b
   have hlb:σ.aj+1+1+1<σ'.aj:=jb
   unfold jJ at q3
   simp(disch:=try exact jz) only[go_sem,z3,t1,t2,t3,t15,t16,t17,bf,hfit,hz,hraw,hrk,cV,au q3]
   refine aC.st (Fr σ') (fr) λfZ=>?_
   have hsz:Sz (aW (BO e.c r k)):=V4 (n:=e.c.length) hD (λp hp=>by have:=PV (P:=Jd A) (λi _=>hO.c i) r k hk p hp;grind) (by grind[Np])
   refine(atO fZ.wf (hR.fr jb fZ) jb kd hr hrk jb hsz hqz).mono ?_
   rintro _ σ6 ⟨⟨bs',hR6⟩,hlo,hW6,yS⟩
   have vO:σ'.aj+1+1<=σ6.aj:=yS
   have hlr:=hR.l r hr
   have hk6:∀b,b<σ.aj+1+1+1+1->b≠σ.aj+1+1->σ6.h b=σ'.h b:=λb h1 h2=>by rw[hlo b kd h2 jb];exact fZ.old b jb
   have q06:=(hk6 _ jb jb).trans q0
   have q16:=(hk6 _ jb jb).trans q1
   have q36:=(hk6 _ jb jb).trans q3
   have q66:σ6.h (σ'.aj+1)=some ⟨[.bool (rn (ix e.c k).a.q),.str (rs (ix e.c k).a.q),.str (rd (ix e.c k).a.q)],none⟩:=(hlo _ (bO _) jb jb).trans (aA _ _ _)
   have hts:Sz (nK e k):=atP hD hO.c jb
   have gX:Fr σ σ6:=⟨jb,hW6,λb hb=>by rw[hk6 b jb jb];exact hf.old b hb⟩
   simp(disch:=try exact jz) only[go_sem,z3,t1,t2,t3,t15,t16,t17,au q36,au q66,q36,aI q36]
   refine⟨e.c.length-(k+1),jb,k+1,bs',rfl,jb,rfl,q06,q16,rfl,?_,fr,jb⟩
   exact hR6.on (ak _ _ _ _ jb) (λb h1 _=>ak _ _ _ _ jb) jp
  .have:k=e.c.length:=jb
   subst this
   simp(disch:=try exact jz) only[go_sem,z3,am]
   grind
 rintro _ tm σ2 ⟨rfl,bs,t1,t2,t3,q0,q1,q3,hR,hf,hnx⟩
 have hle:=hf.le
 unfold jJ at q3
 simp(disch:=try exact jz) only[go_sem,z3,t1,t2,t3,au q0,hAk,hlenA]
 refine bM.mono (Q:=λex tm σ'=>ex=.exit 2/\∃pb M L,Tr.ah tm 2=.c (.ptr (σ.aj+1) 0)/\Tr.ah tm 3=.c (.ptr (σ.aj+1+1+1) 0)
   /\σ'.h (σ.aj+1+1+1)=some ⟨jJ e.c.length (.sl (σ.aj+1+1) 0 8 (.ex 8)) (aV e.a.length pb) (nK e e.c.length),none⟩/\aqu M L e.c e.a σ'.h pb e.a.length σ2.aj σ'.aj/\aU [σ.aj+1+1+1] σ2 σ')
  (aF (λq tm σ'=>∃j pb M L,q=e.a.length-j/\j<=e.a.length/\Tr.ah tm 1=.c (.ptr σ.aj 0)/\Tr.ah tm 2=.c (.ptr (σ.aj+1) 0)/\Tr.ah tm 3=.c (.ptr (σ.aj+1+1+1) 0)/\Tr.ah tm 41=.c Av/\Tr.ah tm 42=.c (.int .i64 (.ofNat e.a.length))/\Tr.ah tm 43=.c (.int .i64 (.ofNat j))
   /\σ'.h (σ.aj+1+1+1)=some ⟨jJ e.c.length (.sl (σ.aj+1+1) 0 8 (.ex 8)) (aV j pb) (nK e e.c.length),none⟩/\aqu M L e.c e.a σ'.h pb j σ2.aj σ'.aj/\aU [σ.aj+1+1+1] σ2 σ') e.a.length ?_ ?_) ?_
 .refine⟨0,σ2.aj,λ_=>.aO,λ_=>.aO,jb,jb,?_⟩
  simp(disch:=try exact jz) only[go_sem,z3,t1,t2,t3,am]
  exact⟨q3,NF.nil (abG _ _),aU.refl hf.wf⟩
 .rintro q tm σ' ⟨j,pb,M,L,rfl,hj,t1,t2,t3,t41,t42,t43,q3,hN,hfe⟩
  have hle':=hfe.le
  simp(disch:=try exact jz) only[go_sem,z3,t1,t2,t3,t41,t42,t43,aG]
  refine aH (λhlt=>?_) (λhlt=>?_)
  .obtain⟨b5,o5,c5,rfl,T1,bf,hT⟩:=hA.at hlt
   have hf3:Fr σ σ':=hfe.to hf (by simp;omega)
   have bf:=hf3.ld hW bf
   have q0':=hfe.get hf.wf (by simp only[dp];omega) q0
   have Pg:=hT.kn
   have hlb:=hN.l1
   have P9:=hN.l2
   have lK:=Fr.refl hfe.wf
   unfold jJ at q3
   simp(disch:=try exact jz) only[go_sem,z3,t1,t2,t3,t41,t42,t43,bf,Pg,au q0',au q3,h1,h2,h3,LK,hAk]
   refine aC.st (Fr σ') (fr) λfZ=>?_
   have hf5:=hf3.trans fZ
   refine(axk fZ.wf (aX.fr hW hf5 hC) (hT.fr hW hf5) h1 h2 h3 hAk hD (hO.a j hlt)).mono ?_
   rintro _ σ6 ⟨⟨mv,lv,rfl,hM,hL⟩,gX⟩
   have jI:=fZ.trans gX
   have yS:σ'.aj+1<=σ6.aj:=gX.le
   have q36:=jI.get hfe.wf q3
   have hMk:=aX.kn hM
   have hLk:=hL.kn
   have hN6:=NF.mono hN (λj _=>Nq _ _ _ _ j) (λb _ hb=>jI.old b hb) jp
   have hg6:=hN6.g
   have hLG:=abG M L
   have abI:aU [σ.aj+1+1+1] σ2 σ6:=hfe.trans (jI.ex _)
   simp(disch:=try exact jz) only[go_sem,z3,t1,t2,t3,t41,t42,t43,hMk,hLk,au q36,q36,hg6,aI q36]
   refine⟨e.a.length-(j+1),jb,j+1,σ6.aj+1,aN M j mv,aN L j lv,rfl,jb,rfl,rfl,?_,by repeat(first|assumption|exact aU.refl (by assumption)|exact aU.up (by assumption) kf|exact aU.up (aU.refl (by assumption)) kf|refine aU.set1 ?_ kg kf|refine aU.lU ?_ kg|refine aU.oD ?_ kg|refine aU.pG ?_ kf)⟩
   refine NF.push hN (λj _=>Nq _ _ _ _ j) (λi hi p h hq=>?_) (hi1:=σ6.aj) (h1:=σ6.h) ?_ (λb _ hb=>jI.old b hb) jb jb jb jb ?_ ?_ (λc h1 h2 h3=>?_) (λi hi=>?_) (abG _ _) (x:=[mv,lv])
   .unfold adL at hq⊢
    rw[aS _ _ _ _ jb,aS _ _ _ _ jb];exact hq
   .unfold adL
    rw[aK,aK]
    exact⟨aX.keep hM (λ_ _=>rfl) λb hb=>⟨ap (eg _) hb.1,hb.2⟩,hL.keep (λ_ _=>rfl) λb hb=>⟨ap (eg _) hb.1,hb.2⟩⟩
   .rw[ak _ _ _ _ jb,aA]
   .rw[aK,aK]
   .rw[ak _ _ _ _ jb,ak _ _ _ _ jb,iq _ _ _ _ h3,ak _ _ _ _ jb]
   .rw[aS _ _ _ _ jb,aS _ _ _ _ jb]
  .have:j=e.a.length:=jb
   subst this
   simp(disch:=try exact jz) only[go_sem,z3,am]
   exact⟨pb,M,L,t2,t3,q3,hN,hfe⟩
 rintro _ tm σ3 ⟨rfl,pb,M,L,t2,t3,q3,hN,hfe⟩
 have hle':=hfe.le
 have hf3:Fr σ σ3:=hfe.to hf (by simp;omega)
 have q1':=hfe.get hf.wf kc q1
 have hlb:=hN.l1
 unfold jJ at q3
 simp(disch:=try exact jz) only[go_sem,z3,t2,t3,au q3,MI,aI q1',q1']
 have hk:∀b,σ.aj+1<b->(hset σ3.h (σ.aj+1) ⟨[.int .i64 (.ofNat e.c.length),.sl (σ.aj+1+1) 0 8 (.ex 8),aV e.a.length pb,.bool (rn (nK e e.c.length)),.str (rs (nK e e.c.length)),.str (rd (nK e e.c.length))],none⟩) b=σ3.h b:=λb hb=>ak _ _ _ _ jb
 refine⟨⟨_,_,rfl,?_,M,L,?_,λi hi=>?_⟩,fr⟩
 .refine((hR.on (σ':=σ3) (hfe.old _ jb kc) (λb h1 h2=>hfe.old b h2 (by simp;omega)) hle').atI (p:=λb=>σ.aj+1<b/\b<σ3.aj) ⟨jb,jb⟩ λb h1 h2=>⟨jb,h2⟩).keep (λb hb=>hk b hb.1) λb hb=>⟨jb,hb.2⟩
 .show aX _ _ 2 _ (e.a.map (pV e.c)).length _
  rw[cw]
  refine(NF.hlp (p:=λb=>σ.aj+1<b/\b<σ3.aj) hN jj (λi hi=>?_) λb h1 h2=>⟨jb,h2⟩).keep (λb hb=>hk b hb.1) λb hb=>⟨jb,hb.2⟩
  have:=hN.el (λj _=>Nq M L e.c e.a j) hi
  simp only[cD,df,aX.kn this.1,this.2.kn,cR]
 .have hi:i<(e.a.map (pV e.c)).length:=hi
  rw[cw]at hi
  have:=hN.el (λj _=>Nq M L e.c e.a j) hi
  show abu _ _ _ (ix (e.a.map (pV e.c)) i).1/\zH _ _ _ (ix (e.a.map (pV e.c)) i).2
  rw[YV _ hi]
  exact⟨aX.keep this.1 (λb hb=>hk b jb) λb hb=>⟨jb,hb.2⟩,this.2.keep (λb hb=>hk b jb) λb hb=>⟨jb,hb.2⟩⟩
abbrev jK(p:Nat->Prop)(h:Tr Bk)(v:B)(k:Nat)(f:Nat->Rat):Prop:=aX p h 3 v k λc=>dY (f c)
def dO(p:Nat->Prop)(h:Tr Bk)(v:B)(n:Nat)(k:Nat->Nat)(f:Nat->Nat->Rat):Prop:=∃T:Nat->B,aX p h 1 v n (λi=>[T i])/\∀i,i<n->jK p h (T i) (k i) (f i)
section
variable {p q:Nat→Prop} {h h' : Tr Bk} {v:B} {n:Nat} {k:Nat→Nat} {f f' : Nat→Nat→Rat}
def aX.at3{m:Nat}{f:Nat->Rat}(hl:jK p h v m f){c:Nat}(hc:c<m):∃b o cc,v=.sl b o m cc/\p b/\ld h b (o+c*3) 3 true=some (.agg [.bool (rn (f c)),.str (rs (f c)),.str (rd (f c))]):=by obtain⟨b,o,cc,e,hp,hld⟩:=aX.pos hl jb;exact⟨b,o,cc,e,hp,hld c hc⟩
def dO.at(hr:dO p h v n k f){i:Nat}(hi:i<n):∃b o c T,v=.sl b o n c/\p b/\ld h b (o+i*1) 1 false=some (.c T)/\jK p h T (k i) (f i):=by obtain⟨T,h1,h2⟩:=hr;obtain⟨b,o,c,e,hp,hld⟩:=h1.pos jb;grind[sK]
def dO.keep(hr:dO p h v n k f)(hk:∀b,p b->h' b=h b)(hp:∀b,p b->q b):dO q h' v n k f:=by obtain⟨T,h1,h2⟩:=hr;exact⟨T,h1.keep hk hp,λi hi=>aX.keep (h2 i hi) hk hp⟩
def dO.congr(hr:dO p h v n k f)(hf:∀i c,i<n->c<k i->f i c=f' i c):dO p h v n k f':=by obtain⟨T,h1,h2⟩:=hr;exact⟨T,h1,λi hi=>aX.congr (h2 i hi) λc hc=>by grind⟩
def dO.len(hr:dO p h v n k f):lenV (.c v)=some (.c (.int .i64 (.ofNat n))):=hr.choose_spec.1.len
def dO.kn(hr:dO p h v n k f):v.kn=true:=hr.choose_spec.1.kn
end
theorem dO.fr{σ σ':St}(hW:WF σ)(hf:Fr σ σ'){p:Nat->Prop}{v:B}{n:Nat}{k:Nat->Nat}{f:Nat->Nat->Rat}(hr:dO p σ.h v n k f):dO (Lt σ.aj) σ'.h v n k f:=by obtain⟨T,h1,h2⟩:=hr;exact⟨T,h1.fr hW hf,λi hi=>aX.fr hW hf (h2 i hi)⟩
def Rn(T:Nat->B)(k:Nat->Nat)(f:Nat->Nat->Rat)(p:Nat->Prop)(h:Tr Bk)(i:Nat):Prop:=jK p h (T i) (k i) (f i)
abbrev abJ(T:Nat->B)(k:Nat->Nat)(f:Nat->Nat->Rat)(ty:Nat)(h:Tr Bk)(b n lo hi:Nat):Prop:=NF (Rn T k f) h b n (λi=>[T i]) 1 ty lo hi
def Em(T:Nat->B)(k:Nat->Nat)(f:Nat->Nat->Rat)(j:Nat):QK (Rn T k f) j:=λ_ _ _ _ hp hk hq=>aX.keep hp hk hq
def aj2(T:Nat->B):LG (λi=>[T i]) 1:=λ_=>rfl
section
variable {T:Nat→B} {k:Nat→Nat} {f:Nat→Nat→Rat} {h h' : Tr Bk} {b n ty lo hi:Nat}
def abJ.push(ho:abJ T k f ty h b n lo hi){hi1 nx n':Nat}{h1:Tr Bk}{v:B}(hx:jK (λb=>hi<=b/\b<hi1) h1 v (k n) (f n))(hh:∀b,lo<=b->b<hi->h1 b=h b)(h2:hi<=hi1)(h3:hi1<=nx)(h4:nx<n')(h5:lo<=hi)
  (hb:h' nx=some ⟨bC n (λi=>[T i])++[v],some (1,ty)⟩) (hk:∀c,lo<=c->c<hi1->n=0\/c≠b->h' c=h1 c):abJ (aN T n v) k f ty h' nx (n+1) lo n':=by
 refine NF.push ho (λj _=>Em _ k f j) (λj hj p h hq=>?_) (hi1:=hi1) (h1:=h1) ?_ hh h2 h3 h4 h5 hb ?_ hk (λi hi=>?_) (aj2 _)
 .grind[Rn,aS]
 .grind[Rn,aK]
 .rw[aK]
 grind[aS]
def abJ.hrows(ho:abJ T k f ty h b n lo hi){p:Nat->Prop}(hp:∀b,lo<=b->b<hi->p b):dO p h (aV n b) n k f:=by have hel:=λi (hi:i<n)=>ho.el (λj _=>Em T k f j) hi;refine⟨T,ho.hlp jj (λi hi=>?_) hp,λi hi=>aX.keep (hel i hi) (λ_ _=>rfl) λb hb=>hp b hb.1 hb.2⟩;simp only[cD,df,aX.kn (hel i hi),cR]
end
end Go.Proofs.Xe
namespace Go.Proofs.Ins
def GX(W:Rat)(q:fK->Rat):Rat->List fK->fK->Rat
 |_,[],_=>0
 |Q,a::t,l=>(if a=l then sS (Q+q a-W)-sS (Q-W)else 0)+GX W q (Q+q a) t l
def CY(g:GL)(x:Nat->Rat)(l:fK):Rat:=aJ g.ds λd=>GX d.1 (gq g x) 0 d.2 l
def Ro(g:GL)(x:Nat->Rat)(l:fK):Rat:=gq g x l-CY g x l
def Kq(W:Rat)(q:fK->Rat)(Q:Rat)(a:fK)(t:List fK)(l:fK):GX W q Q (a::t) l=(if a=l then sS (Q+q a-W)-sS (Q-W)else 0)+GX W q (Q+q a) t l:=rfl
def V5{W:Rat}{q:fK->Rat}{l:fK}:∀{t:List fK}{Q:Rat},l∉t->GX W q Q t l=0
 |[],_,_=>rfl
 |a::t,Q,h=>by unfold GX;rw[ab (λe=>h (by simp[e])),V5 (λhl=>h (by simp[hl]))];exact cV 0
def TQ{W:Rat}{q:fK->Rat}{l a:fK}:∀{t:List fK}{Q:Rat},GX W q Q (t++[a]) l=GX W q Q t l+if a=l then sS (Q+aJ t q+q a-W)-sS (Q+aJ t q-W)else 0
 |[],Q=>by show(if a=l then sS (Q+q a-W)-sS (Q-W)else 0)+0=0+if a=l then sS (Q+0+q a-W)-sS (Q+0-W)else 0;grind
 |b::t,Q=>by rw[fq];unfold GX;rw[TQ];show _=_+if a=l then sS (Q+(q b+aJ t q)+q a-W)-sS (Q+(q b+aJ t q)-W)else 0;rw[show Q+(q b+aJ t q)=Q+q b+aJ t q by grind];grind
section
variable {n:Nat} {g:GL}
end
end Go.Proofs.Ins
namespace Go.Proofs.Xe
open Go.RowKit Go.Proofs.Ins
def Nr{a b:Rat}:0<=oq a b↔b<=a:=by rw[<-Int.not_lt,rH];grind
def Qc(p:Rat):vJ p 0=sS p:=by
 unfold vJ sS;by_cases h:0<=p
 .rw[ae h,ae (Nr.mpr h)]
 .rw[ab h,ab λe=>h (Nr.mp e)]
def Kr{p:Rat}(h:0<=p):sS p=p:=ae h
def afY(W:Rat)(q:Nat->Rat)(k:Nat):Rat:=sS (aB (k+1) q-W)-sS (aB k q-W)
def Y1(σ σ':St)(r:V)(n:Nat)(f:Nat->Rat):Prop:=∃b,r=.c (.sl b 0 n (.ex n))/\σ'.h b=some ⟨cO n f,none⟩/\σ.aj<=b/\b<σ'.aj
theorem Zk.Aj{D:Nat}{f:Nat->Rat}:∀{n:Nat},(∀i,i<n->Zk D 1 (f i))->Zk D n (aB n f)
 |0,_=>Zk.zero
 |n+1,h=>(Zk.Aj λi hi=>h i jb).add (h n jb)
def Zk.pq{D k:Nat}{q:Rat}(h:Zk D k q):Zk D k (sS q):=by
 unfold sS;split
 .exact h
 .exact Zk.zero.mono (bp _)
def aj3:1000000<=256^uK:=ap (by decide:1000000<=256^3) (bA jj jj)
def afZ{σ:St}(hW:WF σ){p:Nat->Prop}{wn:Bool}{ws wd:ByteArray}{W:Rat}(hw:rq wn ws wd=W)(hws:ws.size+wd.size<=130000000){v:B}{m:Nat}{q:Nat->Rat}(hv:jK p σ.h v m q)(hm:m<=1000)(hq:∀k,k<m->0<=q k)(h0:0<=W){D:Nat}(hD:CS D)(hWz:Zk D 1 W)(hqz:∀k,k<m->Zk D 1 (q k)):
  aC EN 92 [.agg [.bool wn,.str ws,.str wd],.c v] σ λr σ'=>Y1 σ σ' r m (afY W q)/\Fr σ σ':=by
 refine aP (pO.o _ _) pO.h ?_
 unfold pO
 dsimp only
 have hlen:=aX.len hv
 have hFr:=Fr.refl hW
 have hu:=aj3
 have hp:=λ(args:List V) (σ:St) (K:V->St->Prop)=>lN (E:=EN) (K:=K) (gZ.o args σ) gZ.h
 unfold gZ at hp
 dsimp only at hp
 simp(disch:=try exact jz) only[go_sem,z3,hlen]
 refine aF (λx tm σ'=>∃k,x=m-k/\k<=m/\Tr.ah tm 2=.c (.ptr σ.aj 0)/\Tr.ah tm 5=.c (.sl (σ.aj+1) 0 m (.ex m))/\Tr.ah tm 6=.c (.ptr (σ.aj+1+1) 0)/\Tr.ah tm 7=.c (.ptr (σ.aj+1+1+1) 0)/\Tr.ah tm 16=.c v/\Tr.ah tm 17=.c (.int .i64 (.ofNat m))/\Tr.ah tm 18=.c (.int .i64 (.ofNat k))
  /\σ'.h σ.aj=some ⟨[.bool wn,.str ws,.str wd],none⟩/\σ'.h (σ.aj+1)=some ⟨cO m (λi=>if i<k then afY W q i else 0),none⟩/\σ'.h (σ.aj+1+1)=some ⟨[.bool (rn (aB k q)),.str (rs (aB k q)),.str (rd (aB k q))],none⟩/\σ'.h (σ.aj+1+1+1)=some ⟨[.bool (rn (sS (aB k q-W))),.str (rs (sS (aB k q-W))),.str (rd (sS (aB k q-W)))],none⟩
  /\Fr σ σ'/\σ.aj+1+1+1+1<=σ'.aj) m ?_ ?_
 .refine⟨0,jb,jb,?_⟩
  have e0:sS (0-W)=0:=by grind[sS]
  simp(disch:=try exact jz) only[go_sem,z3,am]
  refine⟨?_,rfl,?_,fr,jb⟩
  .rw[yK]
  .show _=some (Bk.mk [.bool (rn (sS (0-W))),.str (rs (sS (0-W))),.str (rd (sS (0-W)))] none)
   rw[e0]
 .rintro x tm σ' ⟨k,rfl,hk,t2,t5,t6,t7,t16,t17,qc,q2,q5,q6,q7,hf,hnx⟩
  have hle:=hf.le
  simp(disch:=try exact jz) only[go_sem,z3,t2,t5,t6,t7,t16,t17,qc,aG]
  refine aH (λhlt=>?_) (λhlt=>?_)
  .obtain⟨b5,o5,c5,rfl,-,bf⟩:=aX.at3 hv hlt
   have bf:=hf.ld hW bf
   have hqk:=hq k hlt
   have hzk:=hqz k hlt
   have hzs:Zk D k (aB k q):=Zk.Aj λi hi=>hqz i jb
   have z1:Sz (q k):=hzk.sz hD jb
   have z2:Sz (aB k q):=hzs.sz hD jb
   have z3':=(hzs.add hzk)
   have z4:Sz (aB k q+q k):=z3'.sz hD jb
   have z5:Sz W:=hWz.sz hD jb
   have z6:Sz (aB k q+q k-W):=(z3'.sub hWz).sz hD jb
   have z7:Sz (sS (aB k q+q k-W)):=(z3'.sub hWz).pq.sz hD jb
   have z8:Sz (sS (aB k q-W)):=(hzs.sub hWz).pq.sz hD jb
   have z9:=Sz.zero
   have z10:=Sz.zero.two
   have e1:sS (q k)=q k:=Kr hqk
   have e2:sS W=W:=Kr h0
   have lK:=Fr.refl hf.wf
   simp(disch:=try exact jz) only[go_sem,z3,t2,t5,t6,t7,t16,t17,qc,bf,au q2,au q6,aI q6,au q7,aI q7,aI q5,q5,q6,q7,Qc,e1,e2,hw,hp]
   refine⟨m-(k+1),jb,k+1,rfl,jb,rfl,q2,?_,rfl,rfl,fr,jb⟩
   exact bN (λl=>some (Bk.mk l none)) (tH m k (afY W q))
  .have:k=m:=jb
   subst this
   simp(disch:=try exact jz) only[go_sem,z3,t5]
   exact⟨⟨_,rfl,by rw[q5,zJ],jb,jb⟩,hf⟩
def abK{σ:St}(hW:WF σ){p p':Nat->Prop}{w1 w2 w3 L lv:B}{fE:List Ins.Lg}{n:Nat}{kk:Nat->Nat}{f:Nat->Nat->Rat}(hL:AB p σ.h L fE)(hR:dO p' σ.h lv n kk f)(h1:w1.kn=true)(h2:w2.kn=true)(h3:w3.kn=true)(hl:fE.length<=1000)(Jg:∀j,j<fE.length->∃e c:Nat,ix fE j=⟨.ofNat e,.ofNat c⟩/\e<n/\c<kk e):
  aC EN 93 [.agg [w1,w2,w3,L],.c lv] σ λr σ'=>Y1 σ σ' r fE.length (λj=>f (Bd (ix fE j)).1 (Bd (ix fE j)).2)/\Fr σ σ':=by
 refine aP (wz.o _ _) wz.h ?_
 unfold wz
 dsimp only
 have hlen:=aX.len hL
 have hLk:=aX.kn hL
 have hFr:=Fr.refl hW
 simp(disch:=try exact jz) only[go_sem,z3,hlen,hLk,h1,h2,h3]
 refine aF (λx tm σ'=>∃j,x=fE.length-j/\j<=fE.length/\Tr.ah tm 1=.c lv/\Tr.ah tm 5=.c (.sl (σ.aj+1) 0 fE.length (.ex fE.length))/\Tr.ah tm 13=.c L/\Tr.ah tm 14=.c (.int .i64 (.ofNat fE.length))/\Tr.ah tm 15=.c (.int .i64 (.ofNat j))
  /\σ'.h (σ.aj+1)=some ⟨cO fE.length (λi=>if i<j then f (Bd (ix fE i)).1 (Bd (ix fE i)).2 else 0),none⟩/\Fr σ σ'/\σ.aj+1+1<=σ'.aj) fE.length ?_ ?_
 .refine⟨0,jb,jb,?_⟩
  simp(disch:=try exact jz) only[go_sem,z3,am]
  exact⟨by rw[yK],fr,jb⟩
 .rintro x tm σ' ⟨j,rfl,hj,t1,t5,t13,t14,t15,q5,hf,hnx⟩
  have hle:=hf.le
  simp(disch:=try exact jz) only[go_sem,z3,t1,t5,t13,t14,t15,aG]
  refine aH (λhlt=>?_) (λhlt=>?_)
  .obtain⟨b5,o5,c5,rfl,-,bf⟩:=aX.pos hL jb
   have bf:=hf.ld hW (bf j hlt)
   obtain⟨e,c,FN,he,hc⟩:=Jg j hlt
   obtain⟨b6,o6,c6,T,rfl,-,bK,hT⟩:=hR.at he
   obtain⟨b7,o7,c7,rfl,-,dA⟩:=aX.at3 hT hc
   have bK:=hf.ld hW bK
   have dA:=hf.ld hW dA
   have hb6:=hf.wf.dw bK
   have hb7:=hf.wf.dw dA
   have lK:=Fr.refl hf.wf
   unfold MJ at bf
   have hst:=tH fE.length j λi=>f (Bd (ix fE i)).1 (Bd (ix fE i)).2
   rw[show f (Bd (ix fE j)).1 (Bd (ix fE j)).2=f e c by rw[FN];rfl]at hst
   rw[FN]at bf
   simp(disch:=try exact jz) only[go_sem,z3,t1,t5,t13,t14,t15,bf,bK,dA,q5,aI q5,hst]
   exact⟨fE.length-(j+1),jb,j+1,rfl,jb,rfl,rfl,fr,jb⟩
  .have:j=fE.length:=jb
   subst this
   simp(disch:=try exact jz) only[go_sem,z3,t5]
   exact⟨⟨_,rfl,by rw[q5,zJ],jb,jb⟩,hf⟩
def aqv{σ:St}(hW:WF σ){p:Nat->Prop}{v:B}{n:Nat}{f:Nat->Rat}(hv:jK p σ.h v n f)(hn:n<=1000)(hz:∀i,i<n->Sz (f i))(hs:∀i,i<=n->Sz (aB i f)):
  aC EN 109 [.c v] σ λr σ'=>r=.agg [.bool (rn (aB n f)),.str (rs (aB n f)),.str (rd (aB n f))]/\Fr σ σ':=by
 refine aP (yj.o _ _) yj.h ?_
 unfold yj
 dsimp only
 have hlen:=aX.len hv
 have hFr:=Fr.refl hW
 simp(disch:=try exact jz) only[go_sem,z3,hlen]
 refine aF (λx tm σ'=>∃j,x=n-j/\j<=n/\Tr.ah tm 2=.c (.ptr σ.aj 0)/\Tr.ah tm 3=.c (.ptr (σ.aj+1) 0)/\Tr.ah tm 7=.c v/\Tr.ah tm 8=.c (.int .i64 (.ofNat n))/\Tr.ah tm 9=.c (.int .i64 (.ofNat j))
  /\σ'.h σ.aj=some ⟨[.bool (rn 0),.str (rs 0),.str (rd 0)],none⟩/\σ'.h (σ.aj+1)=some ⟨[.bool (rn (aB j f)),.str (rs (aB j f)),.str (rd (aB j f))],none⟩/\Fr σ σ'/\σ.aj+1+1<=σ'.aj) n ?_ ?_
 .refine⟨0,jb,jb,?_⟩
  simp(disch:=try exact jz) only[go_sem,z3,am]
  exact⟨rfl,fr,jb⟩
 .rintro x tm σ' ⟨j,rfl,hj,t2,t3,t7,t8,t9,q2,q3,hf,hnx⟩
  have hle:=hf.le
  simp(disch:=try exact jz) only[go_sem,z3,t2,t3,t7,t8,t9,aG]
  refine aH (λhlt=>?_) (λhlt=>?_)
  .obtain⟨b5,o5,c5,rfl,-,bf⟩:=aX.at3 hv hlt
   have bf:=hf.ld hW bf
   have z1:=hz j hlt
   have z2:=hs j jb
   have lK:=Fr.refl hf.wf
   simp(disch:=try exact jz) only[go_sem,z3,t2,t3,t7,t8,t9,bf,au q3,q3,aI q3]
   exact⟨n-(j+1),jb,j+1,rfl,jb,rfl,q2,rfl,fr,jb⟩
  .have:j=n:=jb
   subst this
   simp(disch:=try exact jz) only[go_sem,z3,t2,t3,au q3,q2,aI q2]
   exact fr
structure Fam(p:Nat->Prop)(h:Tr Bk)(nn bb:Nat->Nat)(GG:Nat->Nat->List B)(ee tt:Nat->Nat)(QQ:Nat->(Nat->Prop)->Tr Bk->Nat->Prop)(lo hi:Nat):Prop where
 g:∀k,yQ (nn k) h (bb k)=gF (nn k) (GG k) (ee k) (tt k)
 L:∀k,LG (GG k) (ee k)
 l1:∀k,lo<=bb k
 l2:∀k,nn k=0\/bb k<hi
 ne:∀k k',k≠k'->nn k=0\/nn k'=0\/bb k≠bb k'
 np:∀k,nn k=0\/¬p (bb k)
 q:∀k j,j<nn k->QQ k p h j
 pp:∀x,p x->lo<=x/\x<hi
section
variable {p p' : Nat→Prop} {h h' h1:Tr Bk} {nn bb:Nat→Nat} {GG GG' : Nat→Nat→List B} {ee tt:Nat→Nat} {QQ QQ' : Nat→(Nat→Prop)→Tr Bk→Nat→Prop} {lo hi:Nat}
theorem Fam.nil(hn:∀k,nn k=0)(hL:∀k,LG (GG k) (ee k)):Fam (λ_=>False) h nn (λ_=>lo) GG ee tt QQ lo hi:=
 ⟨λk=>by rw[hn k];rfl,hL,λ_=>jp,λk=>.inl (hn k),λk _ _=>.inl (hn k),λk=>.inl (hn k),λk j hj=>by grind,λ_ h=>h.elim⟩
def Fam.keep(ho:Fam p h nn bb GG ee tt QQ lo hi)(hQ:∀k j,QK (QQ k) j)(hh:∀b,lo<=b->b<hi->h' b=h b){hi':Nat}(h2:hi<=hi'):Fam p h' nn bb GG ee tt QQ lo hi':=by obtain⟨g,L,l1,l2,ne,np,q,pp⟩:=ho;refine⟨λk=>?_,L,l1,λk=>by grind,ne,np,λk j hj=>hQ k j _ _ _ _ (q k j hj) (λb hb=>hh b (pp b hb).1 (pp b hb).2) λ_ hb=>hb,λx hx=>by grind⟩;grind[Go.Proofs.Xe.wY]
def Fam.push(ho:Fam p h nn bb GG ee tt QQ lo hi)(k:Nat){hi1 nx n':Nat}(hp:∀x,p x->p' x)(hp2:∀x,p' x->p x\/hi<=x/\x<hi1)(hQ:∀k j,QK (QQ' k) j)(hQQ:∀k j,j<nn k->∀p h,QQ k p h j->QQ' k p h j)(hG:∀k j,j<nn k->GG' k j=GG k j)(hL:∀k,LG (GG' k) (ee k))
  (hx:QQ' k p' h1 (nn k)) (hh:∀x,lo<=x->x<hi->h1 x=h x) (h2:hi<=hi1) (h3:hi1<=nx) (h4:nx<n') (h5:lo<=hi){x:List B}(hb:h' nx=some ⟨bC (nn k) (GG k)++x,some (ee k,tt k)⟩) (hgn:x=GG' k (nn k)) (hk:∀c,lo<=c->c<hi1->nn k=0\/c≠bb k->h' c=h1 c):
  Fam p' h' (aN nn k (nn k+1)) (aN bb k nx) GG' ee tt QQ' lo n':=by
 obtain⟨g,L,l1,l2,ne,np,q,pp⟩:=ho
 have hp':∀b,p' b->lo<=b/\b<hi1/\(nn k=0\/b≠bb k):=λb hb=>by grind
 have hnp:∀k',nn k'=0\/¬p' (bb k'):=λk'=>by grind
 refine⟨λk'=>?_,hL,λk'=>?_,λk'=>?_,λa b hab=>?_,λk'=>?_,λk' j hj=>?_,λx hx=>by grind⟩
 .by_cases e:k'=k
  .subst e
   rw[aK,aK]
   show h' nx=some _
   grind[Go.Proofs.Xe.jr,Go.Proofs.Xe.bH,Go.Proofs.Xe.iP]
  .rw[aS _ _ _ _ e,aS _ _ _ _ e]
   have h6:yQ (nn k') h' (bb k')=yQ (nn k') h (bb k'):=wY (by grind)
   rw[h6,g k']
   generalize hm:nn k'=m
   cases m with
   |zero=>rfl
   |succ m=>show some _=some _;grind[bH]
 .grind[aK,aS]
 .grind[aK,aS]
 .grind[aS,aK]
 .grind[aK,aS]
 .by_cases e:k'=k/\j=nn k
  .obtain⟨rfl,rfl⟩:=e
   exact hQ _ _ _ _ _ _ hx (λb hb=>hk b (hp' b hb).1 (hp' b hb).2.1 (hp' b hb).2.2) λ_ h=>h
  .have hj':j<nn k':=by
    by_cases e2:k'=k
    .subst e2;rw[aK]at hj;have:¬j=nn k':=λe3=>e ⟨rfl,e3⟩;omega
    .rwa[aS _ _ _ _ e2]at hj
   exact hQ _ _ _ _ _ _ (hQQ k' j hj' _ _ (q k' j hj')) (λb hb=>by have:=hp' b (hp b hb);rw[hk b this.1 this.2.1 this.2.2,hh b (pp b hb).1 (pp b hb).2]) hp
def Fam.hlp(ho:Fam p h nn bb GG ee tt QQ lo hi)(k:Nat)(he:0<ee k)(hk:∀j,j<nn k->(GG k j).all B.kn=true){q:Nat->Prop}(hq:∀b,lo<=b->b<hi->q b):aX q h (ee k) (aV (nn k) (bb k)) (nn k) (GG k):=by
 have g:=ho.g k;have hl:=ho.l2 k;have hL:=ho.L k;have hlo:=ho.l1 k;generalize nn k=n at*;cases n with
 |zero=>exact .inl ⟨rfl,rfl⟩
 |succ n=>exact bD _ g (CB _ _ jb) (hq _ hlo jb) hL he hk
def Fam.keep'(ho:Fam p h nn bb GG ee tt QQ lo hi)(hQ:∀k j,QK (QQ k) j)(hp:∀b,p b->h' b=h b)(hh:∀k,nn k=0\/h' (bb k)=h (bb k)):Fam p h' nn bb GG ee tt QQ lo hi:=by obtain⟨g,L,l1,l2,ne,np,q,pp⟩:=ho;exact⟨λk=>(wY (hh k)).trans (g k),L,l1,l2,ne,np,λk j hj=>hQ k j _ _ _ _ (q k j hj) hp λ_ hb=>hb,pp⟩
structure vT(p:Nat->Prop)(h:Tr Bk)(nn bb:Nat->Nat)(GG:Nat->Nat->List B)(ee tt:Nat->Nat)(QQ:Nat->(Nat->Prop)->Tr Bk->Nat->Prop)(m:Nat)(kk:Nat->Nat)(C:Nat->Nat->List B)(bs:Nat->Nat)(lo hi:Nat):Prop where
 f:Fam p h nn bb GG ee tt QQ lo hi
 r:l9 h m kk C bs lo hi
 w:∀j,j<m->¬p (bs j)
 n:∀j k,j<m->nn k=0\/bb k≠bs j
variable {m:Nat} {kk:Nat→Nat} {C:Nat→Nat→List B} {bs:Nat→Nat}
def vT.keep(ho:vT p h nn bb GG ee tt QQ m kk C bs lo hi)(hQ:∀k j,QK (QQ k) j)(hh:∀b,lo<=b->b<hi->h' b=h b){hi':Nat}(h2:hi<=hi'):vT p h' nn bb GG ee tt QQ m kk C bs lo hi':=
 ⟨ho.f.keep hQ hh h2,ho.r.mono hh jp h2,ho.w,ho.n⟩
def vT.push(ho:vT p h nn bb GG ee tt QQ m kk C bs lo hi)(k:Nat){hi1 nx n':Nat}(hp:∀x,p x->p' x)(hp2:∀x,p' x->p x\/hi<=x/\x<hi1)(hQ:∀k j,QK (QQ' k) j)(hQQ:∀k j,j<nn k->∀p h,QQ k p h j->QQ' k p h j)(hG:∀k j,j<nn k->GG' k j=GG k j)(hL:∀k,LG (GG' k) (ee k))
  (hx:QQ' k p' h1 (nn k)) (hh:∀x,lo<=x->x<hi->h1 x=h x) (h2:hi<=hi1) (h3:hi1<=nx) (h4:nx<n') (h5:lo<=hi){x:List B}(hb:h' nx=some ⟨bC (nn k) (GG k)++x,some (ee k,tt k)⟩) (hgn:x=GG' k (nn k)) (hk:∀c,lo<=c->c<hi1->nn k=0\/c≠bb k->h' c=h1 c):
  vT p' h' (aN nn k (nn k+1)) (aN bb k nx) GG' ee tt QQ' m kk C bs lo n':=by
 refine⟨ho.f.push k hp hp2 hQ hQQ hG hL hx hh h2 h3 h4 h5 hb hgn hk,ho.r.mono' (λj hj=>?_) jp jb,λj hj hb=>?_,λj i hj=>?_⟩
 .obtain⟨-,k2,k3⟩:=ho.r.r j hj
  have:=ho.n j k hj
  grind
 .obtain⟨-,k2,k3⟩:=ho.r.r j hj
  rcases hp2 _ hb with hb|hb
  .exact ho.w j hj hb
  .omega
 .obtain⟨-,k2,k3⟩:=ho.r.r j hj
  by_cases e:i=k
  .grind[aK]
  .rw[aS nn _ _ _ e,aS bb _ _ _ e];exact ho.n j i hj
def vT.pushRow(ho:vT p h nn bb GG ee tt QQ m kk C bs lo hi)(k:Nat){hi1 nx n' nb:Nat}(hQ:∀k j,QK (QQ' k) j)(hQQ:∀k j,j<nn k->∀p h,QQ k p h j->QQ' k p h j)(hG:∀k j,j<nn k->GG' k j=GG k j)(hL:∀k,LG (GG' k) (ee k))
  (hx:QQ' k p h1 (nn k)) (hh:∀x,lo<=x->x<hi->h1 x=h x) (h2:hi<=hi1) (h3:hi1<=nx) (h4:nx<n') (h5:lo<=hi){x:List B}(hb:h' nx=some ⟨bC (nn k) (GG k)++x,some (ee k,tt k)⟩) (hgn:x=GG' k (nn k)) (hk:∀c,lo<=c->c<hi1->nn k=0\/c≠bb k->h' c=h1 c)
  (h6:hi<=nb) (h7:nb<hi1) (hr:h' nb=some ⟨bC (kk m) (C m),none⟩):
  vT p h' (aN nn k (nn k+1)) (aN bb k nx) GG' ee tt QQ' (m+1) kk C (aN bs m nb) lo n':=by
 have hP:=ho.push k (p':=p) (λ_ h=>h) (λ_ h=>.inl h) hQ hQQ hG hL hx hh h2 h3 h4 h5 hb hgn hk
 refine⟨hP.f,ho.r.push hr rfl h6 jb jb λb h8 h9 ⟨i,hi,e⟩=>?_,λj hj=>?_,λj i hj=>?_⟩
 .have:=ho.n i k hi
  grind
 .by_cases e:j=m
  .subst e;rw[aK];exact λh=>by have:=ho.f.pp _ h;omega
  .rw[aS _ _ _ _ e];exact ho.w j jb
 .by_cases e:j=m
  .subst e
   rw[aK bs]
   by_cases e2:i=k
   .grind[aK]
   .rw[aS nn _ _ _ e2,aS bb _ _ _ e2]
    have:=ho.f.l2 i;omega
  .rw[aS bs _ _ _ e];exact hP.n j i jb
def vT.write(ho:vT p h nn bb GG ee tt QQ m kk C bs lo hi)(hQ:∀k j,QK (QQ k) j){j c:Nat}{x l:List B}(hj:j<m)(hl:l=bC (kk j) (iP (C j) c x)):vT p (hset h (bs j) ⟨l,none⟩) nn bb GG ee tt QQ m kk (sW C j c x) bs lo hi:=by
 refine⟨ho.f.keep' hQ (λb hb=>ak _ _ _ _ λe=>ho.w j hj (e▸hb)) (λk=>?_),ho.r.set hj hl,ho.w,ho.n⟩;rcases ho.n j k hj with e|e
 .omega
 grind[ak]
theorem vT.grow(ho:vT p h nn bb GG ee tt QQ m kk C bs lo hi)(hQ:∀k j,QK (QQ k) j)(hh:∀b,lo<=b->b<hi->h' b=h b){hi':Nat}(h2:hi<=hi')(hp:∀x,p x->p' x)(hp2:∀x,p' x->p x\/hi<=x/\x<hi')(h3:lo<=hi):vT p' h' nn bb GG ee tt QQ m kk C bs lo hi':=by
 obtain⟨⟨g,L,l1,l2,ne,np,q,pp⟩,r,w,n⟩:=ho;refine⟨⟨λk=>?_,L,l1,λk=>by grind,ne,λk=>?_,λk j hj=>hQ k j _ _ _ _ (q k j hj) (λb hb=>hh b (pp b hb).1 (pp b hb).2) hp,λx hx=>?_⟩,r.mono hh jp h2,λj hj hb=>?_,n⟩
 .grind[Go.Proofs.Xe.wY]
 .grind
 .grind
 .obtain⟨-,k2,k3⟩:=r.r j hj;grind
def vT.same(ho:vT p h nn bb GG ee tt QQ m kk C bs lo hi)(k:Nat){hi1:Nat}(hh:∀x,lo<=x->x<hi->h1 x=h x)(h2:hi<=hi1)(hk:∀c,lo<=c->c<hi1->nn k=0\/c≠bb k->h' c=h1 c):∀x,p x->h' x=h x:=λx hx=>by
 have h3:=ho.f.pp x hx;rw[hk x h3.1 jb ?_,hh x h3.1 h3.2];rcases ho.f.np k with e|e
 .omega
 grind
end
end Go.Proofs.Xe
