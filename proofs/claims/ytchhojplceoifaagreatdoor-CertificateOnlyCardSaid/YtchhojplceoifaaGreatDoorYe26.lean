import Derived.Test.YtchhojplceoifaaGreatDoorYe25
set_option linter.all false
set_option maxRecDepth 100000
namespace Go.Proofs.Ins
def vV(W:Rat)(q:fM->Rat):Rat->List fM->fM->Rat
 |_,[],_=>0
 |Q,a::t,l=>(if a=l then nI (Q+q a-W)-nI (Q-W)else 0)+vV W q (Q+q a) t l
def yu(g:GL)(x:Nat->Rat)(l:fM):Rat:=aK g.ds λd=>vV d.1 (gq g x) 0 d.2 l
def JA(g:GL)(x:Nat->Rat)(l:fM):Rat:=gq g x l-yu g x l
theorem JB(W:Rat)(q:fM->Rat)(Q:Rat)(a:fM)(t:List fM)(l:fM):vV W q Q (a::t) l=(if a=l then nI (Q+q a-W)-nI (Q-W)else 0)+vV W q (Q+q a) t l:=rfl
def Vh{W:Rat}{q:fM->Rat}{l:fM}:∀{t:List fM}{Q:Rat},l∉t->vV W q Q t l=0
 |[],_,_=>rfl
 |a::t,Q,h=>by unfold vV;rw[ae (λe=>h (by simp[e])),Vh (λhl=>h (by simp[hl]))];exact dc 0
def RP{W:Rat}{q:fM->Rat}{l a:fM}:∀{t:List fM}{Q:Rat},vV W q Q (t++[a]) l=vV W q Q t l+if a=l then nI (Q+aK t q+q a-W)-nI (Q+aK t q-W)else 0
 |[],Q=>by show(if a=l then nI (Q+q a-W)-nI (Q-W)else 0)+0=0+if a=l then nI (Q+0+q a-W)-nI (Q+0-W)else 0;grind
 |b::t,Q=>by rw[gS];unfold vV;rw[RP];show _=_+if a=l then nI (Q+(q b+aK t q)+q a-W)-nI (Q+(q b+aK t q)-W)else 0;rw[show Q+(q b+aK t q)=Q+q b+aK t q by grind];grind
section
variable {n:Nat} {g:GL}
def X8{k:Nat->Nat}{a:fM}(h1:a.1<n)(h2:a.2<k a.1)(F:Nat->Nat->Rat):aB n (λi=>aB (k i) λc=>if a=(i,c)then F i c else 0)=F a.1 a.2:=by grind[iZ,bD]
def acS{k:Nat->Nat}{W:Rat}{q:fM->Rat}(j:Nat):∀(t:List fM) (Q:Rat),(∀l∈t,l.1<n/\l.2<k l.1)->aB n (λi=>aB (k i) λc=>if i=j then vV W q Q t (i,c)else 0)=og W q Q t j
 |[],Q,_=>by grind[og,bD,vV]
 |a::t,Q,h=>by
  have h1:=h a kc;have e:aB n (λi=>aB (k i) λc=>if i=j then vV W q Q (a::t) (i,c)else 0)=aB n (λi=>aB (k i) λc=>if a=(i,c)then(if i=j then nI (Q+q a-W)-nI (Q-W)else 0)else 0)+aB n λi=>aB (k i) λc=>if i=j then vV W q (Q+q a) t (i,c)else 0:=by rw[<-bZ];refine aJ λi _=>?_;rw[<-bZ];grind[Go.Proofs.Ins.JB]
  rw[e,X8 h1.1 h1.2,acS j t _ λl hl=>h l (by simp[hl])];rfl
def X9{k:Nat->Nat}{hf:Nat->Nat->Int}{W:Rat}{q:fM->Rat}(j:Nat)(hd:Int):∀(t:List fM) (Q:Rat),(∀l∈t,l.1<n/\l.2<k l.1)->(∀l∈t,hf l.1 l.2=hd)->aB n (λi=>aB (k i) λc=>if hf i c=(j:Int)then vV W q Q t (i,c)else 0)=if hd=(j:Int)then nI (Q+aK t q-W)-nI (Q-W)else 0
 |[],Q,_,_=>by rw[bD λi _=>bD λc _=>by grind[vV]];show 0=if hd=(j:Int)then nI (Q+0-W)-nI (Q-W)else 0;grind
 |a::t,Q,h,hh=>by
  have h1:=h a kc;have h2:=hh a kc;have e:aB n (λi=>aB (k i) λc=>if hf i c=(j:Int)then vV W q Q (a::t) (i,c)else 0)=aB n (λi=>aB (k i) λc=>if a=(i,c)then(if hf i c=(j:Int)then nI (Q+q a-W)-nI (Q-W)else 0)else 0)+aB n λi=>aB (k i) λc=>if hf i c=(j:Int)then vV W q (Q+q a) t (i,c)else 0:=by rw[<-bZ];refine aJ λi _=>?_;rw[<-bZ];grind[Go.Proofs.Ins.JB]
  rw[e,X8 h1.1 h1.2 λi c=>if hf i c=(j:Int)then nI (Q+q a-W)-nI (Q-W)else 0,X9 j hd t _ (λl hl=>h l (by simp[hl])) λl hl=>hh l (by simp[hl]),h2];grind[aK]
def asB(g:GL):Prop:=∀d∈g.ds,∀l∈d.2,g.h l.1 l.2=F7 g d
def asC(hg:Jz n g)(hh:asB g)(x:Nat->Rat)(j:Nat):aB n (λi=>aB (g.k i) λc=>(if i=j then yu g x (i,c)else 0)+if g.h i c=(j:Int)then JA g x (i,c)else 0)=gG n g x j:=by
 have hr:∀d∈g.ds,∀l∈d.2,l.1<n/\l.2<g.k l.1:=λd hd l hl=>hg.fA l (cG.mpr ⟨d,hd,hl⟩);have a1:aB n (λi=>aB (g.k i) λc=>if i=j then yu g x (i,c)else 0)=aK g.ds λd=>og d.1 (gq g x) 0 d.2 j:=by
  rw[dR λd hd=>(acS (k:=g.k) (W:=d.1) (q:=gq g x) j d.2 0 (hr d hd)).symm,<-qE g.ds λd i=>aB (g.k i) λc=>if i=j then vV d.1 (gq g x) 0 d.2 (i,c)else 0];refine aJ λi _=>?_;rw[<-qE g.ds λd c=>if i=j then vV d.1 (gq g x) 0 d.2 (i,c)else 0];refine aJ λc _=>?_;by_cases e:i=j
  .simp only[ab e];rfl
  grind[iO]
 have a2:aB n (λi=>aB (g.k i) λc=>if g.h i c=(j:Int)then yu g x (i,c)else 0)=aK g.ds λd=>if F7 g d=(j:Int)then nI (0+aK d.2 (gq g x)-d.1)-nI (0-d.1)else 0:=by
  rw[dR λd hd=>(X9 (k:=g.k) (hf:=g.h) (W:=d.1) (q:=gq g x) j (F7 g d) d.2 0 (hr d hd) (hh d hd)).symm,<-qE g.ds λd i=>aB (g.k i) λc=>if g.h i c=(j:Int)then vV d.1 (gq g x) 0 d.2 (i,c)else 0];refine aJ λi _=>?_;rw[<-qE g.ds λd c=>if g.h i c=(j:Int)then vV d.1 (gq g x) 0 d.2 (i,c)else 0];refine aJ λc _=>?_;by_cases e:g.h i c=(j:Int)
  .simp only[ab e];rfl
  .simp only[ae e];exact(iO λ_ _=>rfl).symm
 have a3:aB n (λi=>aB (g.k i) λc=>if g.h i c=(j:Int)then gq g x (i,c)else 0)=aB n (λi=>aB (g.k i) λc=>if uX g j i c then gq g x (i,c)else 0)+aK g.ds λd=>if F7 g d=(j:Int)then aK d.2 (gq g x)else 0:=by
  have b1:aK g.ds (λd=>if F7 g d=(j:Int)then aK d.2 (gq g x)else 0)=aK g.fA λl=>if g.h l.1 l.2=(j:Int)then gq g x l else 0:=by
   unfold GL.fA;rw[OI];refine dR λd hd=>?_;by_cases e:F7 g d=(j:Int)
   .rw[ab e];exact dR λl hl=>by rw[hh d hd l hl,ab e]
   .rw[ae e];exact(iO λl hl=>by rw[hh d hd l hl,ae e]).symm
  rw[b1,<-OH (n:=n) (g:=g) (λl=>if g.h l.1 l.2=(j:Int)then gq g x l else 0) g.fA hg.nodup hg.fA,<-bZ];refine aJ λi _=>?_;rw[<-bZ];refine aJ λc _=>?_;unfold uX;by_cases e1:(i,c)∈g.fA
  .by_cases e2:g.h i c=(j:Int)
   .simp[e1,e2];grind
   .simp[e1,e2];grind
  .by_cases e2:g.h i c=(j:Int)
   .simp[e1,e2];grind
   .simp[e1,e2];grind
 have e:aB n (λi=>aB (g.k i) λc=>(if i=j then yu g x (i,c)else 0)+if g.h i c=(j:Int)then JA g x (i,c)else 0)=aB n (λi=>aB (g.k i) λc=>if i=j then yu g x (i,c)else 0)+(aB n (λi=>aB (g.k i) λc=>if g.h i c=(j:Int)then gq g x (i,c)else 0)-aB n λi=>aB (g.k i) λc=>if g.h i c=(j:Int)then yu g x (i,c)else 0):=by rw[<-gK,<-bZ];refine aJ λi _=>?_;rw[<-gK,<-bZ];refine aJ λc _=>?_;unfold JA;split<;>split<;>grind
 rw[e,a1,a2,a3];unfold gG;have:aK g.ds (dG g x j)=aK g.ds (λd=>og d.1 (gq g x) 0 d.2 j)+(aK g.ds (λd=>if F7 g d=(j:Int)then aK d.2 (gq g x)else 0)-aK g.ds λd=>if F7 g d=(j:Int)then nI (0+aK d.2 (gq g x)-d.1)-nI (0-d.1)else 0):=by
  rw[<-Il,<-Ac];refine dR λd hd=>?_;have h0:=hg.pos d hd;unfold dG;rw[gw];have h1:nI (0-d.1)=0:=by unfold nI;split<;>grind
  rw[h1];split
  .unfold jP nI;split<;>split<;>grind
  .grind
 grind
end
def acT{g:gB}(h:GZ g):asB (aZ g):=by
 intro d hd l hl;obtain⟨d',hd',rfl⟩:=cV.mp hd;obtain⟨j,hj,rfl⟩:=aR hd';obtain⟨x,hx,rfl⟩:=cV.mp hl;obtain⟨k,hk,rfl⟩:=aR hx;rw[<-fE hj]at hk;have h1:=(h.l j hj).2.2 k hk;obtain⟨a,b,e1,-,-,-,h2⟩:=h1;have e2:F7 (aZ g) ((ix g.d j).w.q,(ix g.d j).l.map zK)=holdL g.e (ix (ix g.d j).l 0):=by
  unfold F7;cases hL:(ix g.d j).l with
  |nil=>grind
  |cons y t=>rfl
 simp only[<-fE hj];rw[e2,<-h2,<-fE hk];rfl
end Go.Proofs.Ins
namespace Go.Proofs.Xe
open Go.RowKit Go.Proofs.Ins
def LZ{a b:Rat}:0<=oQ a b↔b<=a:=by rw[<-Int.not_lt,qJ];grind
def aaQ(p:Rat):Hw p 0=nI p:=by
 unfold Hw nI;by_cases h:0<=p
 .rw[ab h,ab (LZ.mpr h)]
 .rw[ae h,ae λe=>h (LZ.mp e)]
def JC{p:Rat}(h:0<=p):nI p=p:=ab h
def ae3(W:Rat)(q:Nat->Rat)(k:Nat):Rat:=nI (aB (k+1) q-W)-nI (aB k q-W)
def Ql(σ σ':St)(r:V)(n:Nat)(f:Nat->Rat):Prop:=∃b,r=.c (.sl b 0 n (.ex n))/\σ'.h b=some ⟨cO n f,none⟩/\σ.aj<=b/\b<σ'.aj
theorem Zk.Ak{D:Nat}{f:Nat->Rat}:∀{n:Nat},(∀i,i<n->Zk D 1 (f i))->Zk D n (aB n f)
 |0,_=>Zk.zero
 |n+1,h=>(Zk.Ak λi hi=>h i jb).add (h n jb)
def Zk.pq{D k:Nat}{q:Rat}(h:Zk D k q):Zk D k (nI q):=by
 unfold nI;split
 .exact h
 .exact Zk.zero.mono (bp _)
def ai0:1000000<=256^uK:=aw (by decide:1000000<=256^3) (bL jj jj)
def ae4{σ:St}(hW:WF σ){p:Nat->Prop}{wn:Bool}{ws wd:ByteArray}{W:Rat}(hw:rq wn ws wd=W)(hws:ws.size+wd.size<=130000000){v:B}{m:Nat}{q:Nat->Rat}(hv:jc p σ.h v m q)(hm:m<=1000)(hq:∀k,k<m->0<=q k)(h0:0<=W){D:Nat}(hD:Ce D)(hWz:Zk D 1 W)(hqz:∀k,k<m->Zk D 1 (q k)):
  aC EN 92 [.agg [.bool wn,.str ws,.str wd],.c v] σ λr σ'=>Ql σ σ' r m (ae3 W q)/\Fr σ σ':=by
 refine aO (oL.o _ _) oL.h ?_
 unfold oL
 dsimp only
 have hlen:=aY.len hv
 have hFr:=Fr.refl hW
 have hu:=ai0
 have hp:=λ(args:List V) (σ:St) (K:V->St->Prop)=>iL (E:=EN) (K:=K) (iq.o args σ) iq.h
 unfold iq at hp
 dsimp only at hp
 simp(disch:=try exact jz) only[go_sem,z3,hlen]
 refine aF (λx tm σ'=>∃k,x=m-k/\k<=m/\Tr.ah tm 2=.c (.ptr σ.aj 0)/\Tr.ah tm 5=.c (.sl (σ.aj+1) 0 m (.ex m))/\Tr.ah tm 6=.c (.ptr (σ.aj+1+1) 0)/\Tr.ah tm 7=.c (.ptr (σ.aj+1+1+1) 0)/\Tr.ah tm 16=.c v/\Tr.ah tm 17=.c (.int .i64 (.ofNat m))/\Tr.ah tm 18=.c (.int .i64 (.ofNat k))
  /\σ'.h σ.aj=some ⟨[.bool wn,.str ws,.str wd],none⟩/\σ'.h (σ.aj+1)=some ⟨cO m (λi=>if i<k then ae3 W q i else 0),none⟩/\σ'.h (σ.aj+1+1)=some ⟨[.bool (rn (aB k q)),.str (rs (aB k q)),.str (rd (aB k q))],none⟩/\σ'.h (σ.aj+1+1+1)=some ⟨[.bool (rn (nI (aB k q-W))),.str (rs (nI (aB k q-W))),.str (rd (nI (aB k q-W)))],none⟩
  /\Fr σ σ'/\σ.aj+1+1+1+1<=σ'.aj) m ?_ ?_
 .refine⟨0,jb,jb,?_⟩
  have e0:nI (0-W)=0:=by grind[nI]
  simp(disch:=try exact jz) only[go_sem,z3,am]
  refine⟨?_,rfl,?_,fr,jb⟩
  .rw[uY]
  .show _=some (Bk.mk [.bool (rn (nI (0-W))),.str (rs (nI (0-W))),.str (rd (nI (0-W)))] none)
   rw[e0]
 .rintro x tm σ' ⟨k,rfl,hk,t2,t5,t6,t7,t16,t17,nJ,q2,q5,q6,q7,hf,hnx⟩
  have hle:=hf.le
  simp(disch:=try exact jz) only[go_sem,z3,t2,t5,t6,t7,t16,t17,nJ,aG]
  refine aH (λhlt=>?_) (λhlt=>?_)
  .obtain⟨b5,o5,c5,rfl,-,bP⟩:=aY.at3 hv hlt
   have bP:=hf.ld hW bP
   have hqk:=hq k hlt
   have hzk:=hqz k hlt
   have hzs:Zk D k (aB k q):=Zk.Ak λi hi=>hqz i jb
   have z1:Sz (q k):=hzk.sz hD jb
   have z2:Sz (aB k q):=hzs.sz hD jb
   have z3':=(hzs.add hzk)
   have z4:Sz (aB k q+q k):=z3'.sz hD jb
   have z5:Sz W:=hWz.sz hD jb
   have z6:Sz (aB k q+q k-W):=(z3'.sub hWz).sz hD jb
   have z7:Sz (nI (aB k q+q k-W)):=(z3'.sub hWz).pq.sz hD jb
   have z8:Sz (nI (aB k q-W)):=(hzs.sub hWz).pq.sz hD jb
   have z9:=Sz.zero
   have z10:=Sz.zero.two
   have e1:nI (q k)=q k:=JC hqk
   have e2:nI W=W:=JC h0
   have jm:=Fr.refl hf.wf
   simp(disch:=try exact jz) only[go_sem,z3,t2,t5,t6,t7,t16,t17,nJ,bP,ak q2,ak q6,aI q6,ak q7,aI q7,aI q5,q5,q6,q7,aaQ,e1,e2,hw,hp]
   refine⟨m-(k+1),jb,k+1,rfl,jb,rfl,q2,?_,rfl,rfl,fr,jb⟩
   exact bO (λl=>some (Bk.mk l none)) (oZ m k (ae3 W q))
  .have:k=m:=jb
   subst this
   simp(disch:=try exact jz) only[go_sem,z3,t5]
   exact⟨⟨_,rfl,by rw[q5,wQ],jb,jb⟩,hf⟩
def aaR{σ:St}(hW:WF σ){p p':Nat->Prop}{w1 w2 w3 L lv:B}{fA:List Ins.Lg}{n:Nat}{kk:Nat->Nat}{f:Nat->Nat->Rat}(hL:Kr p σ.h L fA)(hR:dY p' σ.h lv n kk f)(h1:w1.kn=true)(h2:w2.kn=true)(h3:w3.kn=true)(hl:fA.length<=1000)(II:∀j,j<fA.length->∃e c:Nat,ix fA j=⟨.ofNat e,.ofNat c⟩/\e<n/\c<kk e):
  aC EN 93 [.agg [w1,w2,w3,L],.c lv] σ λr σ'=>Ql σ σ' r fA.length (λj=>f (zK (ix fA j)).1 (zK (ix fA j)).2)/\Fr σ σ':=by
 refine aO (vH.o _ _) vH.h ?_
 unfold vH
 dsimp only
 have hlen:=aY.len hL
 have hLk:=aY.kn hL
 have hFr:=Fr.refl hW
 simp(disch:=try exact jz) only[go_sem,z3,hlen,hLk,h1,h2,h3]
 refine aF (λx tm σ'=>∃j,x=fA.length-j/\j<=fA.length/\Tr.ah tm 1=.c lv/\Tr.ah tm 5=.c (.sl (σ.aj+1) 0 fA.length (.ex fA.length))/\Tr.ah tm 13=.c L/\Tr.ah tm 14=.c (.int .i64 (.ofNat fA.length))/\Tr.ah tm 15=.c (.int .i64 (.ofNat j))
  /\σ'.h (σ.aj+1)=some ⟨cO fA.length (λi=>if i<j then f (zK (ix fA i)).1 (zK (ix fA i)).2 else 0),none⟩/\Fr σ σ'/\σ.aj+1+1<=σ'.aj) fA.length ?_ ?_
 .refine⟨0,jb,jb,?_⟩
  simp(disch:=try exact jz) only[go_sem,z3,am]
  exact⟨by rw[uY],fr,jb⟩
 .rintro x tm σ' ⟨j,rfl,hj,t1,t5,t13,t14,t15,q5,hf,hnx⟩
  have hle:=hf.le
  simp(disch:=try exact jz) only[go_sem,z3,t1,t5,t13,t14,t15,aG]
  refine aH (λhlt=>?_) (λhlt=>?_)
  .obtain⟨b5,o5,c5,rfl,-,bP⟩:=aY.pos hL jb
   have bP:=hf.ld hW (bP j hlt)
   obtain⟨e,c,Ci,he,hc⟩:=II j hlt
   obtain⟨b6,o6,c6,T,rfl,-,bH,hT⟩:=hR.at he
   obtain⟨b7,o7,c7,rfl,-,dw⟩:=aY.at3 hT hc
   have bH:=hf.ld hW bH
   have dw:=hf.ld hW dw
   have hb6:=hf.wf.dF bH
   have hb7:=hf.wf.dF dw
   have jm:=Fr.refl hf.wf
   unfold Ll at bP
   have hst:=oZ fA.length j λi=>f (zK (ix fA i)).1 (zK (ix fA i)).2
   rw[show f (zK (ix fA j)).1 (zK (ix fA j)).2=f e c by rw[Ci];rfl]at hst
   rw[Ci]at bP
   simp(disch:=try exact jz) only[go_sem,z3,t1,t5,t13,t14,t15,bP,bH,dw,q5,aI q5,hst]
   exact⟨fA.length-(j+1),jb,j+1,rfl,jb,rfl,rfl,fr,jb⟩
  .have:j=fA.length:=jb
   subst this
   simp(disch:=try exact jz) only[go_sem,z3,t5]
   exact⟨⟨_,rfl,by rw[q5,wQ],jb,jb⟩,hf⟩
def apl{σ:St}(hW:WF σ){p:Nat->Prop}{v:B}{n:Nat}{f:Nat->Rat}(hv:jc p σ.h v n f)(hn:n<=1000)(hz:∀i,i<n->Sz (f i))(hs:∀i,i<=n->Sz (aB i f)):
  aC EN 109 [.c v] σ λr σ'=>r=.agg [.bool (rn (aB n f)),.str (rs (aB n f)),.str (rd (aB n f))]/\Fr σ σ':=by
 refine aO (xM.o _ _) xM.h ?_
 unfold xM
 dsimp only
 have hlen:=aY.len hv
 have hFr:=Fr.refl hW
 simp(disch:=try exact jz) only[go_sem,z3,hlen]
 refine aF (λx tm σ'=>∃j,x=n-j/\j<=n/\Tr.ah tm 2=.c (.ptr σ.aj 0)/\Tr.ah tm 3=.c (.ptr (σ.aj+1) 0)/\Tr.ah tm 7=.c v/\Tr.ah tm 8=.c (.int .i64 (.ofNat n))/\Tr.ah tm 9=.c (.int .i64 (.ofNat j))
  /\σ'.h σ.aj=some ⟨[.bool (rn 0),.str (rs 0),.str (rd 0)],none⟩/\σ'.h (σ.aj+1)=some ⟨[.bool (rn (aB j f)),.str (rs (aB j f)),.str (rd (aB j f))],none⟩/\Fr σ σ'/\σ.aj+1+1<=σ'.aj) n ?_ ?_
 .refine⟨0,jb,jb,?_⟩
  simp(disch:=try exact jz) only[go_sem,z3,am]
  exact⟨rfl,fr,jb⟩
 .rintro x tm σ' ⟨j,rfl,hj,t2,t3,t7,t8,t9,q2,q3,hf,hnx⟩
  have hle:=hf.le
  simp(disch:=try exact jz) only[go_sem,z3,t2,t3,t7,t8,t9,aG]
  refine aH (λhlt=>?_) (λhlt=>?_)
  .obtain⟨b5,o5,c5,rfl,-,bP⟩:=aY.at3 hv hlt
   have bP:=hf.ld hW bP
   have z1:=hz j hlt
   have z2:=hs j jb
   have jm:=Fr.refl hf.wf
   simp(disch:=try exact jz) only[go_sem,z3,t2,t3,t7,t8,t9,bP,ak q3,q3,aI q3]
   exact⟨n-(j+1),jb,j+1,rfl,jb,rfl,q2,rfl,fr,jb⟩
  .have:j=n:=jb
   subst this
   simp(disch:=try exact jz) only[go_sem,z3,t2,t3,ak q3,q2,aI q2]
   exact fr
structure Fam(p:Nat->Prop)(h:Tr Bk)(nn bb:Nat->Nat)(GG:Nat->Nat->List B)(ee tt:Nat->Nat)(QQ:Nat->(Nat->Prop)->Tr Bk->Nat->Prop)(lo hi:Nat):Prop where
 g:∀k,sH (nn k) h (bb k)=gF (nn k) (GG k) (ee k) (tt k)
 L:∀k,LG (GG k) (ee k)
 l1:∀k,lo<=bb k
 l2:∀k,nn k=0\/bb k<hi
 ne:∀k k',k≠k'->nn k=0\/nn k'=0\/bb k≠bb k'
 np:∀k,nn k=0\/¬p (bb k)
 q:∀k j,j<nn k->QQ k p h j
 pp:∀x,p x->lo<=x/\x<hi
section
variable {p p' : Nat→Prop} {h h' h1:Tr Bk} {nn bb:Nat→Nat} {GG GG' : Nat→Nat→List B} {ee tt:Nat→Nat} {QQ QQ' : Nat→(Nat→Prop)→Tr Bk→Nat→Prop} {lo hi:Nat}
theorem Fam.nil(hn:∀k,nn k=0)(hL:∀k,LG (GG k) (ee k)):Fam (λ_=>False) h nn (λ_=>lo) GG ee tt QQ lo hi:=
 ⟨λk=>by rw[hn k];rfl,hL,λ_=>jp,λk=>.inl (hn k),λk _ _=>.inl (hn k),λk=>.inl (hn k),λk j hj=>by grind,λ_ h=>h.elim⟩
def Fam.keep(ho:Fam p h nn bb GG ee tt QQ lo hi)(hQ:∀k j,QK (QQ k) j)(hh:∀b,lo<=b->b<hi->h' b=h b){hi':Nat}(h2:hi<=hi'):Fam p h' nn bb GG ee tt QQ lo hi':=by obtain⟨g,L,l1,l2,ne,np,q,pp⟩:=ho;refine⟨λk=>?_,L,l1,λk=>by grind,ne,np,λk j hj=>hQ k j _ _ _ _ (q k j hj) (λb hb=>hh b (pp b hb).1 (pp b hb).2) λ_ hb=>hb,λx hx=>by grind⟩;grind[Go.Proofs.Xe.uF]
def Fam.push(ho:Fam p h nn bb GG ee tt QQ lo hi)(k:Nat){hi1 nx n':Nat}(hp:∀x,p x->p' x)(hp2:∀x,p' x->p x\/hi<=x/\x<hi1)(hQ:∀k j,QK (QQ' k) j)(hQQ:∀k j,j<nn k->∀p h,QQ k p h j->QQ' k p h j)(hG:∀k j,j<nn k->GG' k j=GG k j)(hL:∀k,LG (GG' k) (ee k))
  (hx:QQ' k p' h1 (nn k)) (hh:∀x,lo<=x->x<hi->h1 x=h x) (h2:hi<=hi1) (h3:hi1<=nx) (h4:nx<n') (h5:lo<=hi){x:List B}(hb:h' nx=some ⟨bV (nn k) (GG k)++x,some (ee k,tt k)⟩) (hgn:x=GG' k (nn k)) (hk:∀c,lo<=c->c<hi1->nn k=0\/c≠bb k->h' c=h1 c):
  Fam p' h' (aN nn k (nn k+1)) (aN bb k nx) GG' ee tt QQ' lo n':=by
 obtain⟨g,L,l1,l2,ne,np,q,pp⟩:=ho
 have hp':∀b,p' b->lo<=b/\b<hi1/\(nn k=0\/b≠bb k):=λb hb=>by grind
 have hnp:∀k',nn k'=0\/¬p' (bb k'):=λk'=>by grind
 refine⟨λk'=>?_,hL,λk'=>?_,λk'=>?_,λa b hab=>?_,λk'=>?_,λk' j hj=>?_,λx hx=>by grind⟩
 .by_cases e:k'=k
  .subst e
   rw[aP,aP]
   show h' nx=some _
   grind[Go.Proofs.Xe.kM,Go.Proofs.Xe.dB,Go.Proofs.Xe.jk]
  .rw[aQ _ _ _ _ e,aQ _ _ _ _ e]
   have h6:sH (nn k') h' (bb k')=sH (nn k') h (bb k'):=uF (by grind)
   rw[h6,g k']
   generalize hm:nn k'=m
   cases m with
   |zero=>rfl
   |succ m=>show some _=some _;grind[dB]
 .grind[aP,aQ]
 .grind[aP,aQ]
 .grind[aQ,aP]
 .grind[aP,aQ]
 .by_cases e:k'=k/\j=nn k
  .obtain⟨rfl,rfl⟩:=e
   exact hQ _ _ _ _ _ _ hx (λb hb=>hk b (hp' b hb).1 (hp' b hb).2.1 (hp' b hb).2.2) λ_ h=>h
  .have hj':j<nn k':=by
    by_cases e2:k'=k
    .subst e2;rw[aP]at hj;have:¬j=nn k':=λe3=>e ⟨rfl,e3⟩;omega
    .rwa[aQ _ _ _ _ e2]at hj
   exact hQ _ _ _ _ _ _ (hQQ k' j hj' _ _ (q k' j hj')) (λb hb=>by have:=hp' b (hp b hb);rw[hk b this.1 this.2.1 this.2.2,hh b (pp b hb).1 (pp b hb).2]) hp
def Fam.hlp(ho:Fam p h nn bb GG ee tt QQ lo hi)(k:Nat)(he:0<ee k)(hk:∀j,j<nn k->(GG k j).all B.kn=true){q:Nat->Prop}(hq:∀b,lo<=b->b<hi->q b):aY q h (ee k) (aS (nn k) (bb k)) (nn k) (GG k):=by
 have g:=ho.g k;have hl:=ho.l2 k;have hL:=ho.L k;have hlo:=ho.l1 k;generalize nn k=n at*;cases n with
 |zero=>exact .inl ⟨rfl,rfl⟩
 |succ n=>exact bf _ g (Df _ _ jb) (hq _ hlo jb) hL he hk
def Fam.keep'(ho:Fam p h nn bb GG ee tt QQ lo hi)(hQ:∀k j,QK (QQ k) j)(hp:∀b,p b->h' b=h b)(hh:∀k,nn k=0\/h' (bb k)=h (bb k)):Fam p h' nn bb GG ee tt QQ lo hi:=by obtain⟨g,L,l1,l2,ne,np,q,pp⟩:=ho;exact⟨λk=>(uF (hh k)).trans (g k),L,l1,l2,ne,np,λk j hj=>hQ k j _ _ _ _ (q k j hj) hp λ_ hb=>hb,pp⟩
structure uZ(p:Nat->Prop)(h:Tr Bk)(nn bb:Nat->Nat)(GG:Nat->Nat->List B)(ee tt:Nat->Nat)(QQ:Nat->(Nat->Prop)->Tr Bk->Nat->Prop)(m:Nat)(kk:Nat->Nat)(C:Nat->Nat->List B)(bs:Nat->Nat)(lo hi:Nat):Prop where
 f:Fam p h nn bb GG ee tt QQ lo hi
 r:lH h m kk C bs lo hi
 w:∀j,j<m->¬p (bs j)
 n:∀j k,j<m->nn k=0\/bb k≠bs j
variable {m:Nat} {kk:Nat→Nat} {C:Nat→Nat→List B} {bs:Nat→Nat}
def uZ.keep(ho:uZ p h nn bb GG ee tt QQ m kk C bs lo hi)(hQ:∀k j,QK (QQ k) j)(hh:∀b,lo<=b->b<hi->h' b=h b){hi':Nat}(h2:hi<=hi'):uZ p h' nn bb GG ee tt QQ m kk C bs lo hi':=
 ⟨ho.f.keep hQ hh h2,ho.r.mono hh jp h2,ho.w,ho.n⟩
def uZ.push(ho:uZ p h nn bb GG ee tt QQ m kk C bs lo hi)(k:Nat){hi1 nx n':Nat}(hp:∀x,p x->p' x)(hp2:∀x,p' x->p x\/hi<=x/\x<hi1)(hQ:∀k j,QK (QQ' k) j)(hQQ:∀k j,j<nn k->∀p h,QQ k p h j->QQ' k p h j)(hG:∀k j,j<nn k->GG' k j=GG k j)(hL:∀k,LG (GG' k) (ee k))
  (hx:QQ' k p' h1 (nn k)) (hh:∀x,lo<=x->x<hi->h1 x=h x) (h2:hi<=hi1) (h3:hi1<=nx) (h4:nx<n') (h5:lo<=hi){x:List B}(hb:h' nx=some ⟨bV (nn k) (GG k)++x,some (ee k,tt k)⟩) (hgn:x=GG' k (nn k)) (hk:∀c,lo<=c->c<hi1->nn k=0\/c≠bb k->h' c=h1 c):
  uZ p' h' (aN nn k (nn k+1)) (aN bb k nx) GG' ee tt QQ' m kk C bs lo n':=by
 refine⟨ho.f.push k hp hp2 hQ hQQ hG hL hx hh h2 h3 h4 h5 hb hgn hk,ho.r.mono' (λj hj=>?_) jp jb,λj hj hb=>?_,λj i hj=>?_⟩
 .obtain⟨-,k2,k3⟩:=ho.r.r j hj
  have:=ho.n j k hj
  grind
 .obtain⟨-,k2,k3⟩:=ho.r.r j hj
  rcases hp2 _ hb with hb|hb
  .exact ho.w j hj hb
  .omega
 .obtain⟨-,k2,k3⟩:=ho.r.r j hj
  by_cases e:i=k
  .grind[aP]
  .rw[aQ nn _ _ _ e,aQ bb _ _ _ e];exact ho.n j i hj
def uZ.pushRow(ho:uZ p h nn bb GG ee tt QQ m kk C bs lo hi)(k:Nat){hi1 nx n' nb:Nat}(hQ:∀k j,QK (QQ' k) j)(hQQ:∀k j,j<nn k->∀p h,QQ k p h j->QQ' k p h j)(hG:∀k j,j<nn k->GG' k j=GG k j)(hL:∀k,LG (GG' k) (ee k))
  (hx:QQ' k p h1 (nn k)) (hh:∀x,lo<=x->x<hi->h1 x=h x) (h2:hi<=hi1) (h3:hi1<=nx) (h4:nx<n') (h5:lo<=hi){x:List B}(hb:h' nx=some ⟨bV (nn k) (GG k)++x,some (ee k,tt k)⟩) (hgn:x=GG' k (nn k)) (hk:∀c,lo<=c->c<hi1->nn k=0\/c≠bb k->h' c=h1 c)
  (h6:hi<=nb) (h7:nb<hi1) (hr:h' nb=some ⟨bV (kk m) (C m),none⟩):
  uZ p h' (aN nn k (nn k+1)) (aN bb k nx) GG' ee tt QQ' (m+1) kk C (aN bs m nb) lo n':=by
 have hP:=ho.push k (p':=p) (λ_ h=>h) (λ_ h=>.inl h) hQ hQQ hG hL hx hh h2 h3 h4 h5 hb hgn hk
 refine⟨hP.f,ho.r.push hr rfl h6 jb jb λb h8 h9 ⟨i,hi,e⟩=>?_,λj hj=>?_,λj i hj=>?_⟩
 .have:=ho.n i k hi
  grind
 .by_cases e:j=m
  .subst e;rw[aP];exact λh=>by have:=ho.f.pp _ h;omega
  .rw[aQ _ _ _ _ e];exact ho.w j jb
 .by_cases e:j=m
  .subst e
   rw[aP bs]
   by_cases e2:i=k
   .grind[aP]
   .rw[aQ nn _ _ _ e2,aQ bb _ _ _ e2]
    have:=ho.f.l2 i;omega
  .rw[aQ bs _ _ _ e];exact hP.n j i jb
def uZ.write(ho:uZ p h nn bb GG ee tt QQ m kk C bs lo hi)(hQ:∀k j,QK (QQ k) j){j c:Nat}{x l:List B}(hj:j<m)(hl:l=bV (kk j) (jk (C j) c x)):uZ p (hset h (bs j) ⟨l,none⟩) nn bb GG ee tt QQ m kk (rO C j c x) bs lo hi:=by
 refine⟨ho.f.keep' hQ (λb hb=>au _ _ _ _ λe=>ho.w j hj (e▸hb)) (λk=>?_),ho.r.set hj hl,ho.w,ho.n⟩;rcases ho.n j k hj with e|e
 .omega
 grind[au]
theorem uZ.grow(ho:uZ p h nn bb GG ee tt QQ m kk C bs lo hi)(hQ:∀k j,QK (QQ k) j)(hh:∀b,lo<=b->b<hi->h' b=h b){hi':Nat}(h2:hi<=hi')(hp:∀x,p x->p' x)(hp2:∀x,p' x->p x\/hi<=x/\x<hi')(h3:lo<=hi):uZ p' h' nn bb GG ee tt QQ m kk C bs lo hi':=by
 obtain⟨⟨g,L,l1,l2,ne,np,q,pp⟩,r,w,n⟩:=ho;refine⟨⟨λk=>?_,L,l1,λk=>by grind,ne,λk=>?_,λk j hj=>hQ k j _ _ _ _ (q k j hj) (λb hb=>hh b (pp b hb).1 (pp b hb).2) hp,λx hx=>?_⟩,r.mono hh jp h2,λj hj hb=>?_,n⟩
 .grind[Go.Proofs.Xe.uF]
 .grind
 .grind
 .obtain⟨-,k2,k3⟩:=r.r j hj;grind
def uZ.same(ho:uZ p h nn bb GG ee tt QQ m kk C bs lo hi)(k:Nat){hi1:Nat}(hh:∀x,lo<=x->x<hi->h1 x=h x)(h2:hi<=hi1)(hk:∀c,lo<=c->c<hi1->nn k=0\/c≠bb k->h' c=h1 c):∀x,p x->h' x=h x:=λx hx=>by
 have h3:=ho.f.pp x hx;rw[hk x h3.1 jb ?_,hh x h3.1 h3.2];rcases ho.f.np k with e|e
 .omega
 grind
end
def avY(p:Nat->Prop)(h:Tr Bk)(lv:B)(el:List BR):Prop:=∃R P:Nat->B,aY p h 6 lv el.length (λi=>jB (ix el i).c.length (R i) (P i) (rW (ix el i) (ix el i).c.length))/\∀i,i<el.length->yR p h (R i) (P i) (dX (ix el i))
def ai1(p:Nat->Prop)(h:Tr Bk)(bv:B)(el:List BR)(L:List fM):Prop:=∃T:Nat->B,aY p h 1 bv el.length (λi=>[T i])/\∀i,i<el.length->aY p h 1 (T i) (ix el i).c.length λc=>[.bool (L.contains (i,c))]
structure DW(p:Nat->Prop)(h:Tr Bk)(sb:Nat)(g:gB):Prop where
 s:∃ev dv lv bv,h sb=some ⟨[ev,dv,lv,bv],none⟩/\uS p h ev dv g/\avY p h lv g.e/\ai1 p h bv g.e (aZ g).fA
 b:p sb
def DW.keep{p q:Nat->Prop}{h h':Tr Bk}{sb:Nat}{g:gB}(hs:DW p h sb g)(hk:∀b,p b->h' b=h b)(hp:∀b,p b->q b):DW q h' sb g:=by obtain⟨⟨ev,dv,lv,bv,h1,h2,⟨R,P,h3,h4⟩,T,h5,h6⟩,hb⟩:=hs;exact⟨⟨ev,dv,lv,bv,by rw[hk _ hb];exact h1,h2.keep hk hp,⟨R,P,h3.keep hk hp,λi hi=>(h4 i hi).keep hk hp⟩,T,h5.keep hk hp,λi hi=>(h6 i hi).keep hk hp⟩,hp _ hb⟩
theorem DW.fr{σ σ':St}(hf:Fr σ σ'){sb:Nat}{g:gB}(hs:DW (Lt σ.aj) σ.h sb g):DW (Lt σ'.aj) σ'.h sb g:=hs.keep (λb hb=>hf.old b hb) λb hb=>aL hb hf.le
def Bz(i:Nat):Nat->Nat:=λk=>if k=2\/k=3 then i else 0
def kE(el:List BR)(i:Nat):Nat:=(ix el i).c.length
def bG(el:List BR)(R P:Nat->B)(bs:Nat->Nat):Nat->Nat->List B
 |2=>λi=>jB (ix el i).c.length (R i) (P i) (rW (ix el i) (ix el i).c.length)
 |3=>λi=>[yC (kE el) bs i]
 |_=>λ_=>[]
def bE:Nat->Nat
 |2=>6
 |3=>1
 |_=>0
def bT:Nat->Nat
 |2=>148
 |3=>38
 |_=>0
def bQ(el:List BR)(R P:Nat->B):Nat->(Nat->Prop)->Tr Bk->Nat->Prop
 |2=>λp h i=>yR p h (R i) (P i) (dX (ix el i))
 |_=>NoQ
def ai2(el:List BR)(R P:Nat->B)(bs:Nat->Nat)(k:Nat):LG (bG el R P bs k) (bE k):=by intro j;unfold bG bE;split<;>rfl
def ae5(el:List BR)(R P:Nat->B)(k j:Nat):QK (bQ el R P k) j:=by
 unfold bQ;split
 .exact λ_ _ _ _ hp hk hq=>hp.keep hk hq
 .exact BN j
def OX(L:List fM)(i c:Nat):List B:=[.bool (L.contains (i,c))]
abbrev aaS(el:List BR)(p:Nat->Prop)(h:Tr Bk)(nn bb:Nat->Nat)(R P:Nat->B)(bs:Nat->Nat)(m:Nat)(L:List fM)(lo hi:Nat):Prop:=uZ p h nn bb (bG el R P bs) bE bT (bQ el R P) m (kE el) (OX L) bs lo hi
def ae6(i:Nat):aN (aN (Bz i) 2 (Bz i 2+1)) 3 (aN (Bz i) 2 (Bz i 2+1) 3+1)=Bz (i+1):=by grind[aN,Bz]
theorem Ya{kk bs:Nat->Nat}{m nb j:Nat}(h:j≠m):yC kk (aN bs m nb) j=yC kk bs j:=by grind[yC,aQ]
def acU(i k:Nat):Bz i k<=i:=by grind[Bz]
def asD{el:List BR}{R P:Nat->B}{i j:Nat}(h:j<i)(rv pv:B)(k:Nat)(p:Nat->Prop)(H:Tr Bk)(hq:bQ el R P k p H j):bQ el (aN R i rv) (aN P i pv) k p H j:=by
 unfold bQ at hq⊢;split
 .grind[aQ]
 .trivial
def asE{el:List BR}{R P:Nat->B}{bs:Nat->Nat}{i j:Nat}(h:j<i)(rv pv:B)(k:Nat):bG el (aN R i rv) (aN P i pv) bs k j=bG el R P bs k j:=by unfold bG;grind[aQ]
def asF{el:List BR}{R P:Nat->B}{bs:Nat->Nat}{m nb j:Nat}(k:Nat)(h:k=3->j<m):bG el R P (aN bs m nb) k j=bG el R P bs k j:=by unfold bG;grind[Ya]
def rX{n:Nat}(h:0<n)(b:Nat):aS n b=.sl b 0 n .opn:=by
 cases n with
 |zero=>omega
 |succ n=>rfl
def BO(dl:List yB)(j:Nat):List fM:=(dl.take j).flatMap λd=>d.l.map zK
def aaT{dl:List yB}{j:Nat}(h:j<dl.length):BO dl (j+1)=BO dl j++(ix dl j).l.map zK:=by grind[BO,bW]
def ae7(g:gB):BO g.d g.d.length=(aZ g).fA:=by grind[BO,GL.fA,aZ,List.flatMap_map]
def ae8(L:List fM)(e c:Nat):rO (OX L) e c [.bool true]=OX (L++[(e,c)]):=by grind[rO,OX]
end Go.Proofs.Xe
