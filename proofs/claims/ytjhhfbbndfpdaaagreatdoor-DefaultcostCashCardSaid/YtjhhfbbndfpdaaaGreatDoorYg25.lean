import Derived.Test.YtjhhfbbndfpdaaaGreatDoorYg24
set_option linter.all false
set_option maxRecDepth 100000
set_option maxHeartbeats 8000000
namespace Go.Proofs.Xe
open Go.RowKit Go.Proofs.Ins
structure ag1(k:Nat)(e:vZ):Prop where
 c:e.c.length<=k
 a:e.a.length<=k
 t:∀j,j<e.a.length->(ix e.a j).length<=k
 p:∀j t,j<e.a.length->t<(ix e.a j).length->(ix (ix e.a j) t).length<=k
structure acp(k:Nat)(g:fH):Prop where
 e:∀i,i<g.e.length->ag1 k (ix g.e i)
 n:g.e.length<=k
 d:g.d.length<=k
 l:∀j,j<g.d.length->(ix g.d j).l.length<=k
def ag1.up{k l:Nat}{e:vZ}(h:ag1 k e)(hk:k<=l):ag1 l e:=⟨ar h.c hk,ar h.a hk,λj hj=>ar (h.t j hj) hk,λj t hj ht=>ar (h.p j t hj ht) hk⟩
def acp.up{k l:Nat}{g:fH}(h:acp k g)(hk:k<=l):acp l g:=⟨λi hi=>(h.e i hi).up hk,ar h.n hk,ar h.d hk,λj hj=>ar (h.l j hj) hk⟩
structure Built(J J':St)(ev dv:B)(g:fH):Prop where
 hg:rW (λb=>J.aj<=b/\b<J'.aj) J'.h ev dv g
 s:Hg 1000000 g
 n:g.e.length<=4
 c:∀i,i<g.e.length->(ix g.e i).c.length<=6
 z:SzG g
 fr:Fr J J'
 l:acp 8 g
def WV(x:Nat):(mV (amt x)).fits 1000:=vU ((jD x).mono jb)
def ag2{w:Nat}(h:w<=16):(mV ((Int.ofNat w:Int):Rat)).fits 1000:=vU ((vO (k:=3) (by show w<16777216;omega) jj).mono jb)
def Oa{r:R3}{k l:Nat}(h:r.fits k)(hkl:k<=l):r.fits l:=⟨ar h.1 hkl,ar h.2 hkl⟩
def jE.built{J J':St}{dv:B}{n eb:Nat}{m:Nat->Rat}{cl:Nat->List C5}{bs:Nat->Nat}{A:Nat->B}{al:Nat->List fD}{dl:List pX}{lo hi:Nat}(hg:jE J'.h dv n eb m cl bs A al dl lo hi)(hn:n<=4)(hlo:J.aj<=lo)(hhi:hi<=J'.aj)(hm:∀i,i<n->∃v,m i=amt v)(hc:∀i,i<n->(cl i).length<=6/\∀k,k<(cl i).length->∃v,(ix (cl i) k).a=mV (amt v))
  (ha:∀i,i<n->GY (cl i).length (al i)) (hd:dl.length<=3/\∀j,j<dl.length->(ix dl j).l.length<=4/\∃v,(ix dl j).w=mV (amt v)) (hf:Fr J J'):Built J J' (.sl eb 0 n .opn) dv ⟨gK n m cl al,dl⟩:=by
 have hlen:(gK n m cl al).length=n:=jP ..
 refine⟨(hg.grp .opn).keep (λ_ _=>rfl) λb hb=>⟨by have:=hb.1;omega,by have:=hb.2;omega⟩,⟨λi hi=>?_,λi hi=>?_,by show _<=_;rw[hlen];omega,by show dl.length<=_;have:=hd.1;omega,λi hi=>by have:=(hd.2 i hi).1;show(ix dl i).l.length<=_;omega⟩,by show _<=_;rw[hlen];exact hn,λi hi=>?_,λi hi k hk=>?_,hf,⟨λi hi=>?_,by show _<=_;rw[hlen];omega,by show dl.length<=_;have:=hd.1;omega,λj hj=>by have:=(hd.2 j hj).1;show(ix dl j).l.length<=_;omega⟩⟩
 .have hi:i<n:=by rw[<-hlen];exact hi
  show ab1 _ (ix (gK n m cl al) i)
  rw[jm m cl al hi]
  obtain⟨a1,a2⟩:=ha i hi
  refine⟨?_,λk hk=>?_,λj t p hj ht hp=>?_,by show(cl i).length<=_;have:=(hc i hi).1;omega,by show(al i).length<=_;omega,λj hj=>by have:=(a2 j hj).1;show(ix (al i) j).length<=_;omega,λj t hj ht=>?_⟩
  .obtain⟨v,e⟩:=hm i hi
   show(mV (m i)).fits _
   rw[e];exact Oa (WV v) jb
  .obtain⟨v,e⟩:=(hc i hi).2 k hk
   rw[e];exact Oa (WV v) jb
  .have hj:j<(al i).length:=hj
   have ht:t<(ix (al i) j).length:=ht
   obtain⟨w,hw,e⟩:=(((a2 j hj).2 t (by have:=(a2 j hj).1;omega)).1 p hp).2
   rw[e];exact Oa (ag2 hw) jb
  .have hj:j<(al i).length:=hj
   have ht:t<(ix (al i) j).length:=ht
   have h9:=((a2 j hj).2 t (by have:=(a2 j hj).1;omega)).2
   have:=(hc i hi).1
   show(ix (ix (al i) j) t).length<=_
   omega
 .obtain⟨-,v,e⟩:=hd.2 i hi
  rw[e];exact Oa (WV v) jb
 .have hi:i<n:=by rw[<-hlen];exact hi
  show(ix (gK n m cl al) i).c.length<=6
  rw[jm m cl al hi];exact(hc i hi).1
 .have hi:i<n:=by rw[<-hlen];exact hi
  have hk:k<(ix (gK n m cl al) i).c.length:=hk
  show(ix (ix (gK n m cl al) i).c k).a.s.size+(ix (ix (gK n m cl al) i).c k).a.d.size<=_/\Sz (ix (ix (gK n m cl al) i).c k).a.q
  rw[jm m cl al hi]at hk⊢
  obtain⟨v,e⟩:=(hc i hi).2 k hk
  show(ix (cl i) k).a.s.size+(ix (cl i) k).a.d.size<=_/\Sz (ix (cl i) k).a.q
  rw[e,nU]
  exact⟨(WS v).two,WS v⟩
 .have hi:i<n:=by rw[<-hlen];exact hi
  show ag1 8 (ix (gK n m cl al) i)
  rw[jm m cl al hi]
  obtain⟨a1,a2⟩:=ha i hi
  have hc6:=(hc i hi).1
  refine⟨by show(cl i).length<=_;omega,by show(al i).length<=_;omega,λj hj=>by have:=(a2 j hj).1;show(ix (al i) j).length<=_;omega,λj t hj ht=>?_⟩
  have hj:j<(al i).length:=hj
  have ht:t<(ix (al i) j).length:=ht
  have:=((a2 j hj).2 t (by have:=(a2 j hj).1;omega)).2
  show(ix (ix (al i) j) t).length<=_
  omega
def tJ{α:Type}[Inhabited α](f:Nat->α){n i:Nat}(h:i<n):ix ((List.range n).map f) i=f i:=by rw[dV (by simpa using h)];simp
structure GR(C:B->List B)(J J':St)(t12 i:Nat)(gvv:B)(R:Nat->B)(ns:Nat->Nat)(M:Nat->Nat->Nat):Prop where
 b:J'.h t12=some ⟨C gvv,none⟩
 v:(i=0/\gvv=.aO)\/∃b,gvv=.sl b 0 i .opn/\0<i/\J'.h b=some ⟨ones i R,some (1,31)⟩/\t12+1<=b/\b<J'.aj/\∀j,j<i->aZ (λx=>t12+1<=x/\x<b) J'.h 3 (R j) (min (ns j) 8) λk=>dP (amt (M j k))
 nx:t12+1<=J'.aj
 fr:Fr J J'

def NL(Q:(Nat->Prop)->Tr Bk->Nat->Prop)(h:Tr Bk)(v:B)(n:Nat)(G:Nat->List B)(e ty lo hi:Nat):Prop:=
 (n=0/\v=.aO)\/(0<n/\∃b,v=.sl b 0 n .opn/\h b=some ⟨aY n G,some (e,ty)⟩/\lo<=b/\b<hi/\∀j,j<n->Q (λx=>lo<=x/\x<b) h j)
def QK(Q:(Nat->Prop)->Tr Bk->Nat->Prop)(j:Nat):Prop:=∀(p q:Nat->Prop) (h h':Tr Bk),Q p h j->(∀b,p b->h' b=h b)->(∀b,p b->q b)->Q q h' j
section
variable {Q:(Nat→Prop)→Tr Bk→Nat→Prop} {h h' : Tr Bk} {v:B} {n:Nat} {G G' : Nat→List B} {e ty lo hi:Nat}
theorem NL.nil:NL Q h .aO 0 G e ty lo hi:=.inl ⟨rfl,rfl⟩
def NL.own(ho:NL Q h v n G e ty lo hi):iZ h v n G e ty lo hi:=by
 rcases ho with h1|⟨h0,b,rfl,h1,h2,h3,-⟩
 .exact .inl h1
 .exact .inr ⟨h0,b,rfl,h1,h2,h3⟩
def NL.mono(ho:NL Q h v n G e ty lo hi)(hQ:∀j,j<n->QK Q j)(hh:∀b,lo<=b->b<hi->h' b=h b){hi':Nat}(h2:hi<=hi'):NL Q h' v n G e ty lo hi':=by
 rcases ho with h1|⟨h0,b,rfl,k1,k2,k3,k4⟩
 .exact .inl h1
 .exact .inr ⟨h0,b,rfl,by grind,k2,jb,λj hj=>hQ j hj _ _ _ _ (k4 j hj) (λx hx=>hh x hx.1 jb) λx hx=>hx⟩
def NL.el(ho:NL Q h v n G e ty lo hi)(hQ:∀j,j<n->QK Q j){j:Nat}(hj:j<n):Q (λx=>lo<=x/\x<hi) h j:=by
 rcases ho with⟨h1,-⟩|⟨h0,b,rfl,k1,k2,k3,k4⟩
 .omega
 .exact hQ j hj _ _ _ _ (k4 j hj) (λ_ _=>rfl) λx hx=>⟨hx.1,jb⟩
def NL.push(ho:NL Q h v n G e ty lo hi)(hQ:∀j,j<=n->QK Q j){x:List B}{hi1 nx n':Nat}{h1:Tr Bk}(hx:Q (λb=>hi<=b/\b<hi1) h1 n)(hh:∀b,lo<=b->b<hi->h1 b=h b)(h2:hi<=hi1)(h3:hi1<=nx)(h4:nx<n')(h5:lo<=hi){cells:List B}(hc:cells=aY n G++x)
  (hb:h' nx=some ⟨cells,some (e,ty)⟩) (hk:∀b,lo<=b->b<hi1->(∀c m k,v=.sl c 0 m k->b≠c)->h' b=h1 b) (hg:∀i,i<n->G' i=G i) (hgn:G' n=x):NL Q h' (.sl nx 0 (n+1) .opn) (n+1) G' e ty lo n':=by
 refine .inr ⟨jb,nx,rfl,?_,jb,h4,λj hj=>?_⟩
 .grind[Go.Proofs.Xe.jv,Go.Proofs.Xe.bf,Go.Proofs.Xe.iC]
 .by_cases e:j=n
  .subst e
   refine hQ j jb _ _ _ _ hx (λx hx=>hk x jb hx.2 λc m k e=>?_) λx hx=>⟨jb,jb⟩
   rcases ho with⟨-,rfl⟩|⟨-,b,rfl,-,-,k3,-⟩
   .cases e
   grind
  .rcases ho with⟨rfl,rfl⟩|⟨h0,b,rfl,k1,k2,k3,k4⟩
   .omega
   .exact hQ j jb _ _ _ _ (k4 j jb) (λx hx=>by grind) λx hx=>⟨hx.1,jb⟩
def NL.congr{Q':(Nat->Prop)->Tr Bk->Nat->Prop}(ho:NL Q h v n G e ty lo hi)(hQ:∀j,j<n->∀p h,Q p h j->Q' p h j)(hG:∀j,j<n->G j=G' j):NL Q' h v n G' e ty lo hi:=by
 rcases ho with h1|⟨h0,b,rfl,k1,k2,k3,k4⟩
 .exact .inl h1
 .exact .inr ⟨h0,b,rfl,by rw[k1,bf hG],k2,k3,λj hj=>hQ j hj _ _ (k4 j hj)⟩
def NL.down(ho:NL Q h v n G e ty lo hi)(hQ:∀j,j<n->QK Q j){lo2:Nat}(hl:lo2<=lo):NL Q h v n G e ty lo2 hi:=by
 rcases ho with h1|⟨h0,b,rfl,k1,k2,k3,k4⟩
 .exact .inl h1
 .exact .inr ⟨h0,b,rfl,k1,jb,k3,λj hj=>hQ j hj _ _ _ _ (k4 j hj) (λ_ _=>rfl) λx hx=>⟨jb,hx.2⟩⟩
def iZ.of{h:Tr Bk}{nx n:Nat}{G:Nat->List B}{e ty lo hi:Nat}(hb:h nx=some ⟨aY n G++G n,some (e,ty)⟩)(h1:lo<=nx)(h2:nx<hi):iZ h (.sl nx 0 (n+1) .opn) (n+1) G e ty lo hi:=by refine .inr ⟨jb,nx,rfl,?_,h1,h2⟩;grind[Go.Proofs.Xe.jv,Go.Proofs.Xe.bf,Go.Proofs.Xe.iC]
end
section
variable {R:B→(Nat→Prop)→Tr Bk→Nat→Prop} {U:Nat→B} {h h' h1:Tr Bk} {v x:B} {n ty lo hi hi1 nx n' : Nat}
def NU(R:B->(Nat->Prop)->Tr Bk->Nat->Prop)(U:Nat->B)(h:Tr Bk)(v:B)(n ty lo hi:Nat):Prop:=NL (λp h j=>R (U j) p h j) h v n (λj=>[U j]) 1 ty lo hi
def RK(R:B->(Nat->Prop)->Tr Bk->Nat->Prop):Prop:=∀u j (p q:Nat->Prop) (h h':Tr Bk),R u p h j->(∀b,p b->h' b=h b)->(∀b,p b->q b)->R u q h' j
def NU.el(ho:NU R U h v n ty lo hi)(hR:RK R){j:Nat}(hj:j<n):R (U j) (λx=>lo<=x/\x<hi) h j:=NL.el ho (λj _=>hR (U j) j) hj
def NU.kn(ho:NU R U h v n ty lo hi):v.kn=true:=iZ.kn (NL.own ho)
def NU.cases(ho:NU R U h v n ty lo hi):(n=0/\v=.aO)\/(0<n/\∃b,v=.sl b 0 n .opn/\h b=some ⟨aY n (λj=>[U j]),some (1,ty)⟩/\lo<=b/\b<hi):=NL.own ho
def NU.push(ho:NU R U h v n ty lo hi)(hR:RK R)(hx:R x (λb=>hi<=b/\b<hi1) h1 n)(hh:∀b,lo<=b->b<hi->h1 b=h b)(h2:hi<=hi1)(h3:hi1<=nx)(h4:nx<n')(h5:lo<=hi){cells:List B}(hc:cells=aY n (λj=>[U j])++[x])
  (hb:h' nx=some ⟨cells,some (1,ty)⟩) (hk:∀b,lo<=b->b<hi1->(∀c m k,v=.sl c 0 m k->b≠c)->h' b=h1 b):NU R (aJ U n x) h' (.sl nx 0 (n+1) .opn) (n+1) ty lo n':=by
 have ho':NL (λp h j=>R (aJ U n x j) p h j) h v n (λj=>[aJ U n x j]) 1 ty lo hi:=NL.congr ho (λj hj p h hq=>by grind[aQ]) λj hj=>by grind[aQ]
 refine NL.push ho' (λj _=>hR (aJ U n x j) j) (hi1:=hi1) (h1:=h1) (x:=[x]) (by grind[aI]) hh h2 h3 h4 h5 ?_ hb hk (λ_ _=>rfl) (by rw[aI])
 grind[bf,aQ]
end
def qP{r:R3}{k:Nat}(h:r.fits k)(hk:k<=50000000):r.s.size+r.d.size<=130000000:=by have:=h.1;have:=h.2;omega
def auV{r:R3}{k:Nat}(h:r.fits k)(hk:k<=20000000):Sz r.q:=(abI r.n r.s r.d).mono (by have:=h.1;have:=h.2;unfold szK;omega)
def dR.kn{p:Nat->Prop}{h:Tr Bk}{v:B}{l:fD}(hl:dR p h v l):v.kn=true:=hl.choose_spec.1.kn
def iH.at{p:Nat->Prop}{h:Tr Bk}{v:B}{l:List fD}(hl:iH p h v l){j:Nat}(hj:j<l.length):∃b o c,v=.sl b o l.length c/\∃T:B,ld h b (o+j*1) 1 true=some (.agg [T])/\dR p h T (ix l j):=by obtain⟨T,h1,h2⟩:=hl;obtain⟨b,o,c,e,-,hld⟩:=h1.pos jb;grind
def dR.at{p:Nat->Prop}{h:Tr Bk}{v:B}{l:fD}(hl:dR p h v l){j:Nat}(hj:j<l.length):∃b o c,v=.sl b o l.length c/\∃T:B,ld h b (o+j*1) 1 false=some (.c T)/\wO p h T (ix l j):=by obtain⟨T,h1,h2⟩:=hl;obtain⟨b,o,c,e,-,hld⟩:=h1.pos jb;exact⟨b,o,c,e,T j,(tH (hld j hj)).1,h2 j hj⟩
def iH.len{p:Nat->Prop}{h:Tr Bk}{v:B}{l:List fD}(hl:iH p h v l):lenV (.c v)=some (jN l.length):=hl.choose_spec.1.len
def dR.len{p:Nat->Prop}{h:Tr Bk}{v:B}{l:fD}(hl:dR p h v l):lenV (.c v)=some (jN l.length):=hl.choose_spec.1.len
def iZ.cases{h:Tr Bk}{v:B}{n:Nat}{G:Nat->List B}{e ty lo hi:Nat}(ho:iZ h v n G e ty lo hi):(n=0/\v=.aO)\/(0<n/\∃b,v=.sl b 0 n .opn/\h b=some ⟨aY n G,some (e,ty)⟩/\lo<=b/\b<hi):=ho
def tK{e n:Nat}{G:Nat->List B}(hG:∀j,(G j).length=e):n*e<=(aY n G).length:=by grind[ng]
theorem dR.fr{J J':St}(hW:WF J)(hf:Fr J J'){p:Nat->Prop}{v:B}{l:fD}(hl:dR p J.h v l):dR (Lt J.aj) J'.h v l:=by obtain⟨T,h1,h2⟩:=hl;exact⟨T,h1.fr hW hf,λi hi=>(h2 i hi).fr hW hf⟩
def clR(r:R3):R3:=mV r.q
def auW(x:yF):yF:=⟨x.k,x.b,clR x.a⟩
def Nv(x:C5):C5:=⟨x.h,x.r,clR x.a⟩
def ag3(t:List yF):List yF:=t.map auW
def Ht(a:fD):fD:=a.map ag3
def acr(d:pX):pX:=⟨clR d.w,d.l⟩
def La{α β:Type}[Inhabited α][Inhabited β](f:α->β)(l:List α){i:Nat}(h:i<l.length):ix (l.map f) i=f (ix l i):=by rw[dV (by simpa using h),dV h];simp
section
variable {p:Nat→Prop} {h:Tr Bk} {v:B} {ty lo hi:Nat}
def iZ.parts{t:List yF}(ho:iZ h v t.length (λk=>Aq (auW (ix t k))) 5 ty lo hi)(hp:∀b,lo<=b->b<hi->p b):wO p h v (ag3 t):=by have:=ho.hlp (p:=p) (λ_=>rfl) jj (λ_ _=>rfl) hp;have hl:(ag3 t).length=t.length:=cn ..;unfold wO;rw[hl];exact this.congr λk hk=>by rw[ag3,La _ _ hk]
def iZ.claims{c:List C5}(ho:iZ h v c.length (λk=>X8 (Nv (ix c k))) 5 ty lo hi)(hp:∀b,lo<=b->b<hi->p b):pJ p h v (c.map Nv):=by have:=ho.hlp (p:=p) (λ_=>rfl) jj (λ_ _=>rfl) hp;have hl:(c.map Nv).length=c.length:=cn ..;unfold pJ;rw[hl];exact this.congr λk hk=>by rw[La _ _ hk]
def RTi(a:fD)(u:B)(p:Nat->Prop)(h:Tr Bk)(t:Nat):Prop:=wO p h u (ag3 (ix a t))
def RAi(l:List fD)(u:B)(p:Nat->Prop)(h:Tr Bk)(j:Nat):Prop:=dR p h u (Ht (ix l j))
def apv(a:fD):RK (RTi a):=λ_ _ _ _ _ _ hp hk hq=>aZ.keep hp hk hq
def apw(l:List fD):RK (RAi l):=λ_ _ _ _ _ _ hp hk hq=>dR.keep hp hk hq
def NU.ad8{U:Nat->B}{a:fD}(ho:NU (RTi a) U h v a.length ty lo hi):dR (λb=>lo<=b/\b<hi) h v (Ht a):=by
 have hl:(Ht a).length=a.length:=cn ..;refine⟨U,?_,λt ht=>?_⟩
 .rw[hl];exact iZ.hlp (NL.own ho) (λ_=>rfl) jj (λt ht=>by simp only[cy,di,aZ.kn (ho.el (apv a) ht),cI]) λb h1 h2=>⟨h1,h2⟩
 .rw[hl]at ht;rw[Ht,La _ _ ht];exact ho.el (apv a) ht
def NU.aBr{T:Nat->B}{l:List fD}(ho:NU (RAi l) T h v l.length ty lo hi):iH (λb=>lo<=b/\b<hi) h v (l.map Ht):=by
 have hl:(l.map Ht).length=l.length:=cn ..;refine⟨T,?_,λt ht=>?_⟩
 .rw[hl];exact iZ.hlp (NL.own ho) (λ_=>rfl) jj (λt ht=>by simp only[cy,di,dR.kn (ho.el (apw l) ht),cI]) λb h1 h2=>⟨h1,h2⟩
 .rw[hl]at ht;rw[La _ _ ht];exact ho.el (apw l) ht
end
def Ob{J:St}(hW:WF J)(r:R3)(hr:r.fits 1000000):aC EN 94 [.agg [.bool r.n,.str r.s,.str r.d]] J λv J'=>v=rV r.q/\Fr J J':=by refine aN (qy.o _ _) qy.h ?_;unfold qy;dsimp only;have hq:=qP hr jj;have hz:=Sz.zero;have hz2:=hz.two;refine WX ?_;refine⟨?_,fr⟩;unfold rV rK;rw[cN];rfl
def ccF(c:List C5):Nat->List B:=λk=>X8 (Nv (ix c k))
def cpF(t:List yF):Nat->List B:=λk=>Aq (auW (ix t k))
section
variable {m0 m1 m2:B}
def ag4{J:St}(hW:WF J){p p':Nat->Prop}(e:vZ)(he:ab1 1000000 e)(hl:ag1 1000 e){C A:B}(hC:pJ p J.h C e.c)(hA:iH p' J.h A e.a):
  aC EN 93 [.agg [.bool e.m.n,.str e.m.s,.str e.m.d,C,A]] J λr J'=>(∃C' A',r=.agg [.bool (rn e.m.q),.str (rs e.m.q),.str (rd e.m.q),C',A']/\pJ (λb=>J.aj<=b/\b<J'.aj) J'.h C' (e.c.map Nv)/\iH (λb=>J.aj<=b/\b<J'.aj) J'.h A' (e.a.map Ht))/\Fr J J':=by
 refine aN (lJ.o _ _) lJ.h ?_
 unfold lJ
 dsimp only
 have SY:=aZ.kn hC
 have hAk:=hA.kn
 have Jy:=aZ.len hC
 have hlenA:=hA.len
 have hlc:=hl.c
 have hla:=hl.a
 refine WX ?_
 refine aC.st (Fr J) (fr) λhF1=>?_
 refine(Ob hF1.wf e.m he.m).mono ?_
 rintro _ σ1 ⟨rfl,hf1⟩
 unfold rV rK
 have hF:=hF1.trans hf1
 have hle1:J.aj+1+1<=σ1.aj:=hf1.le
 have q0:σ1.h J.aj=some ⟨[.bool e.m.n,.str e.m.s,.str e.m.d,C,A],none⟩:=hf1.get hF1.wf ((ak _ _ _ _ jb).trans (ay _ _ _))
 have q1:σ1.h (J.aj+1)=some ⟨[.bool (rn 0),.str (rs 0),.str (rd 0),.aO,.aO],none⟩:=hf1.get hF1.wf (ay _ _ _)
 generalize e.m.q=mq at*
 simp(disch:=try exact jz)only[go_sem,SY,Jy,au q0]
 refine bM.mono (Q:=λex tm J'=>ex=.exit 0/\∃cv,r8 tm 1=.c (.ptr J.aj 0)/\r8 tm 2=.c (.ptr (J.aj+1) 0)/\r8 tm 3=.c (.ptr σ1.aj 0)/\J'.h σ1.aj=some ⟨[.bool (rn mq),.str (rs mq),.str (rd mq),cv,.aO],none⟩/\iZ J'.h cv e.c.length (ccF e.c) 5 63 (σ1.aj+1) J'.aj/\Fr σ1 J'/\σ1.aj+1<=J'.aj)
  (aF (λq tm J'=>∃k cv,q=e.c.length-k/\k<=e.c.length/\r8 tm 1=.c (.ptr J.aj 0)/\r8 tm 2=.c (.ptr (J.aj+1) 0)/\r8 tm 3=.c (.ptr σ1.aj 0)/\r8 tm 19=.c C/\r8 tm 20=jN e.c.length/\r8 tm 21=jN k
   /\J'.h σ1.aj=some ⟨[.bool (rn mq),.str (rs mq),.str (rd mq),cv,.aO],none⟩/\iZ J'.h cv k (ccF e.c) 5 63 (σ1.aj+1) J'.aj/\Fr σ1 J'/\σ1.aj+1<=J'.aj) e.c.length ?_ ?_) ?_
 .refine⟨0,.aO,jb,jb,?_⟩
  refine WN ?_
  have hFr:=Fr.refl hF.wf
  exact⟨.nil,fr,jb⟩
 .rintro q tm J' ⟨k,cv,rfl,hk,t1,t2,t3,t19,t20,t21,q3,hO,hf,hnx⟩
  have hle:=hf.le
  simp(disch:=try exact jz)only[go_sem,t20,t21,aA]
  refine aH (λhlt=>?_) (λhlt=>?_)
  .obtain⟨b5,o5,c5,rfl,-,bC⟩:=aZ.pos hC jb
   have bC:=(hF.trans hf).ld hW (bC k hlt)
   unfold X8 at bC
   have hfit:=he.c k hlt
   have hG:ccF e.c k=[.int .i64 (ix e.c k).h,.int .i64 (ix e.c k).r,.bool (rn (ix e.c k).a.q),.str (rs (ix e.c k).a.q),.str (rd (ix e.c k).a.q)]:=rfl
   simp(disch:=try exact jz)only[go_sem,t19,t21,bC]
   refine aC.st (Fr J') (by have hFr:=Fr.refl hf.wf;exact fr) λhF3=>?_
   refine(Ob hF3.wf _ hfit).mono ?_
   rintro _ σ4 ⟨rfl,hf4⟩
   unfold rV rK
   have gB:=hF3.trans hf4
   have pK:J'.aj+1<=σ4.aj:=hf4.le
   have q3':=gB.get hf.wf q3
   have q5:σ4.h J'.aj=some ⟨[.int .i64 (ix e.c k).h,.int .i64 (ix e.c k).r,.bool (ix e.c k).a.n,.str (ix e.c k).a.s,.str (ix e.c k).a.d],none⟩:=hf4.get hF3.wf (ay _ _ _)
   have hok:=hO.kn
   have acs:=hf.trans gB
   rcases hO.cases with⟨rfl,rfl⟩|⟨hk0,b6,rfl,k1,k2,k3⟩
   .simp(disch:=try exact jz)only[go_sem,W3,aG q5,au q3',q3']
    refine⟨e.c.length-1,jb,1,_,rfl,jb,rfl,rfl,iZ.of (n:=0) (by rw[ak _ _ _ _ jb,ay];rfl) jb jb,fr,jb⟩
   .have hrl:=tK (n:=k) (G:=ccF e.c) (e:=5) λ_=>rfl
    have hrt:=jO (n:=k) (G:=ccF e.c) (e:=5) λ_=>rfl
    have k1':=gB.get hf.wf k1
    simp(disch:=try exact jz)only[go_sem,W3,aG q5,au q3',q3',k1']
    refine⟨e.c.length-(k+1),jb,k+1,_,rfl,jb,rfl,rfl,iZ.of (by rw[ak _ _ _ _ jb,ay,hrt];rfl) jb jb,fr,jb⟩
  .have:k=e.c.length:=jb
   subst this
   simp(disch:=try exact jz)only[go_sem,am]
   exact⟨cv,t1,t2,t3,q3,hO,hf,hnx⟩
 .rintro _ tm σ2 ⟨rfl,cv,t1,t2,t3,q3,hO,hf,hnx⟩
  have hle2:=hf.le
  have hF2:=hF.trans hf
  have hok:=hO.kn
  have q0':=hf.get hF.wf q0
  clear q0
  simp(disch:=try exact jz)only[go_sem,t1,au q0',hlenA,hAk]
  refine bM.mono (Q:=λex tm J'=>ex=.exit 2/\∃av T,r8 tm 2=.c (.ptr (J.aj+1) 0)/\r8 tm 3=.c (.ptr σ1.aj 0)/\J'.h σ1.aj=some ⟨[.bool (rn mq),.str (rs mq),.str (rd mq),cv,av],none⟩/\iZ J'.h cv e.c.length (ccF e.c) 5 63 (σ1.aj+1) σ2.aj/\NU (RAi e.a) T J'.h av e.a.length 93 σ2.aj J'.aj/\Fr σ1 J'/\σ2.aj<=J'.aj)
   (aF (λq tm J'=>∃k av T,q=e.a.length-k/\k<=e.a.length/\r8 tm 2=.c (.ptr (J.aj+1) 0)/\r8 tm 3=.c (.ptr σ1.aj 0)/\r8 tm 37=.c A/\r8 tm 38=jN e.a.length/\r8 tm 39=jN k
    /\J'.h σ1.aj=some ⟨[.bool (rn mq),.str (rs mq),.str (rd mq),cv,av],none⟩/\iZ J'.h cv e.c.length (ccF e.c) 5 63 (σ1.aj+1) σ2.aj/\NU (RAi e.a) T J'.h av k 93 σ2.aj J'.aj/\Fr σ1 J'/\σ2.aj<=J'.aj) e.a.length ?_ ?_) ?_
  .refine⟨0,.aO,λ_=>.aO,jb,jb,?_⟩
   simp(disch:=try exact jz)only[go_sem,t2,t3,am]
   exact⟨q3,hO,NL.nil,hf,jb⟩
  .rintro q tm J' ⟨k,av,T,rfl,hk,t2,t3,t37,t38,t39,q3,hO,hN,hf,hn2⟩
   have hle:=hf.le
   simp(disch:=try exact jz)only[go_sem,t38,t39,aA]
   refine aH (λhlt=>?_) (λhlt=>?_)
   .obtain⟨b5,o5,c5,rfl,T1,bC,hT1⟩:=hA.at hlt
    have bC:=(hF.trans hf).ld hW bC
    have aBs:=hT1.kn
    have akA:=hT1.len
    have hlt1:=hl.t k hlt
    have aBt:=hl.p k
    have ayU:=he.a k
    have hRA:∀u p h,RAi e.a u p h k=dR p h u (Ht (ix e.a k)):=λ_ _ _=>rfl
    generalize ix e.a k=a at*
    simp(disch:=try exact jz)only[go_sem,t37,t39,bC,aBs,akA]
    refine bM.mono (Q:=λex tm σ4=>ex=.exit 4/\∃tv U,r8 tm 2=.c (.ptr (J.aj+1) 0)/\r8 tm 3=.c (.ptr σ1.aj 0)/\r8 tm 8=.c (.ptr (J'.aj+1) 0)/\r8 tm 37=.c (.sl b5 o5 e.a.length c5)/\r8 tm 38=jN e.a.length/\r8 tm 39=jN k
     /\σ4.h (J'.aj+1)=some ⟨[tv],none⟩/\NU (RTi a) U σ4.h tv a.length 91 (J'.aj+1+1) σ4.aj/\Fr J' σ4/\J'.aj+1+1<=σ4.aj)
     (aF (λq tm σ4=>∃t tv U,q=a.length-t/\t<=a.length/\r8 tm 2=.c (.ptr (J.aj+1) 0)/\r8 tm 3=.c (.ptr σ1.aj 0)/\r8 tm 8=.c (.ptr (J'.aj+1) 0)/\r8 tm 37=.c (.sl b5 o5 e.a.length c5)/\r8 tm 38=jN e.a.length/\r8 tm 39=jN k/\r8 tm 44=.c T1/\r8 tm 45=jN a.length/\r8 tm 46=jN t
      /\σ4.h (J'.aj+1)=some ⟨[tv],none⟩/\NU (RTi a) U σ4.h tv t 91 (J'.aj+1+1) σ4.aj/\Fr J' σ4/\J'.aj+1+1<=σ4.aj) a.length ?_ ?_) ?_
    .refine⟨0,.aO,λ_=>.aO,jb,jb,?_⟩
     refine W0 ?_
     have hFr:=Fr.refl hf.wf
     exact⟨NL.nil,fr,jb⟩
    .rintro q tm σ4 ⟨t,tv,U,rfl,ht,t2,t3,t8,t37,t38,t39,t44,t45,t46,q8,hU,hf4,hn4⟩
     have pK:=hf4.le
     simp(disch:=try exact jz)only[go_sem,t45,t46,aA]
     refine aH (λapx=>?_) (λapx=>?_)
     .obtain⟨b6,o6,c6,rfl,P1,bJ,hP1⟩:=hT1.at apx
      have bJ:=(hF.trans (hf.trans hf4)).ld hW bJ
      have aBu:=aZ.kn hP1
      have Jw:=aZ.len hP1
      have aC7:=aBt t hlt apx
      have ayV:=ayU t
      have hRT:∀u p h,RTi a u p h t=wO p h u (ag3 (ix a t)):=λ_ _ _=>rfl
      generalize ix a t=r at*
      simp(disch:=try exact jz)only[go_sem,t44,t46,bJ,Jw]
      refine bM.mono (Q:=λex tm σ5=>ex=.exit 6/\∃lv,r8 tm 2=.c (.ptr (J.aj+1) 0)/\r8 tm 3=.c (.ptr σ1.aj 0)/\r8 tm 8=.c (.ptr (J'.aj+1) 0)/\r8 tm 37=.c (.sl b5 o5 e.a.length c5)/\r8 tm 38=jN e.a.length/\r8 tm 39=jN k/\r8 tm 44=.c (.sl b6 o6 a.length c6)/\r8 tm 45=jN a.length/\r8 tm 46=jN t/\r8 tm 11=.c lv/\iZ σ5.h lv r.length (cpF r) 5 90 σ4.aj σ5.aj/\Fr σ4 σ5)
       (aF (λq tm σ5=>∃l lv,q=r.length-l/\l<=r.length/\r8 tm 2=.c (.ptr (J.aj+1) 0)/\r8 tm 3=.c (.ptr σ1.aj 0)/\r8 tm 8=.c (.ptr (J'.aj+1) 0)/\r8 tm 37=.c (.sl b5 o5 e.a.length c5)/\r8 tm 38=jN e.a.length/\r8 tm 39=jN k/\r8 tm 44=.c (.sl b6 o6 a.length c6)/\r8 tm 45=jN a.length/\r8 tm 46=jN t/\r8 tm 11=.c lv/\r8 tm 50=.c P1/\r8 tm 51=jN r.length/\r8 tm 52=jN l
        /\iZ σ5.h lv l (cpF r) 5 90 σ4.aj σ5.aj/\Fr σ4 σ5) r.length ?_ ?_) ?_
      .refine⟨0,.aO,jb,jb,?_⟩
       refine W0 ?_
       exact⟨.nil,Fr.refl hf4.wf⟩
      .rintro q tm σ5 ⟨l,lv,rfl,hll,t2,t3,t8,t37,t38,t39,t44,t45,t46,t11,t50,t51,t52,hO5,hf5⟩
       have wu:=hf5.le
       simp(disch:=try exact jz)only[go_sem,t51,t52,aA]
       refine aH (λJA=>?_) (λJA=>?_)
       .obtain⟨b7,o7,c7,rfl,-,cZ⟩:=aZ.pos hP1 jb
        have cZ:=((hF.trans (hf.trans hf4)).trans hf5).ld hW (cZ l JA)
        unfold Aq at cZ
        have ayW:=ayV l hlt apx JA
        simp(disch:=try exact jz)only[go_sem,t50,t52,cZ]
        refine aC.st (Fr σ5) (by have hFr:=Fr.refl hf5.wf;exact fr) λiR=>?_
        refine(Ob iR.wf _ ayW).mono ?_
        rintro _ σ6 ⟨rfl,iD⟩
        unfold rV rK
        have ayX:=iR.trans iD
        have zC:σ5.aj+1<=σ6.aj:=iD.le
        have q9:σ6.h σ5.aj=some ⟨[.int .i64 (ix r l).k,.bool (ix r l).b,.bool (ix r l).a.n,.str (ix r l).a.s,.str (ix r l).a.d],none⟩:=iD.get iR.wf (ay _ _ _)
        have hlk:=hO5.kn
        have aC8:=hf5.trans ayX
        rcases hO5.cases with⟨rfl,rfl⟩|⟨hl0,b8,rfl,k1,k2,k3⟩
        .simp(disch:=try exact jz)only[go_sem,W3,aG q9]
         refine⟨r.length-1,jb,1,_,rfl,jb,rfl,rfl,iZ.of (n:=0) (by rw[ay];rfl) jb jb,fr⟩
        .have k1':=ayX.get hf5.wf k1
         have hrl:=tK (n:=l) (G:=cpF r) (e:=5) λ_=>rfl
         have hrt:=jO (n:=l) (G:=cpF r) (e:=5) λ_=>rfl
         simp(disch:=try exact jz)only[go_sem,W3,aG q9,k1']
         refine⟨r.length-(l+1),jb,l+1,_,rfl,jb,rfl,rfl,iZ.of (by rw[ay,hrt];rfl) jb jb,fr⟩
       .have:l=r.length:=jb
        subst this
        simp(disch:=try exact jz)only[go_sem,am]
        exact⟨lv,t2,t3,t8,t37,t38,t39,t44,t45,t46,t11,hO5,hf5⟩
      .rintro _ tm σ5 ⟨rfl,lv,t2,t3,t8,t37,t38,t39,t44,t45,t46,t11,hO5,hf5⟩
       have wu:=hf5.le
       have hlk:=hO5.kn
       have htk:=hU.kn
       have q8':=hf5.get hf4.wf q8
       have aC9:=hf4.trans hf5
       have hx:RTi a lv (λb=>σ4.aj<=b/\b<σ5.aj) σ5.h t:=by rw[hRT];exact hO5.parts λb h1 h2=>⟨h1,h2⟩
       rcases hU.cases with⟨rfl,rfl⟩|⟨ht0,b8,rfl,k1,k2,k3⟩
       .simp(disch:=try exact jz)only[go_sem,W3,au q8',q8',hlk]
        refine⟨a.length-1,jb,1,_,aJ U 0 lv,rfl,jb,rfl,rfl,?_,fr,jb⟩
        refine hU.push (apv a) hx (λb _ hb=>hf5.old b hb) wu jb jb jb (cells:=[lv]) rfl ?_ λb h1 h2 _=>?_
        .rw[ak _ _ _ _ jb,ay]
        .rw[ak _ _ _ _ jb,ak _ _ _ _ jb,ak _ _ _ _ jb]
       .have k1':=hf5.get hf4.wf k1
        have hrl:=tK (n:=t) (G:=λj=>[U j]) (e:=1) λ_=>rfl
        have hrt:=jO (n:=t) (G:=λj=>[U j]) (e:=1) λ_=>rfl
        simp(disch:=try exact jz)only[go_sem,W3,au q8',q8',hlk,k1']
        refine⟨a.length-(t+1),jb,t+1,_,aJ U t lv,rfl,jb,rfl,rfl,?_,fr,jb⟩
        refine hU.push (apv a) hx (λb _ hb=>hf5.old b hb) wu jb jb jb rfl ?_ λb h1 h2 h3=>?_
        .rw[ak _ _ _ _ jb,ay,hrt]
        .have h3:=h3 _ _ _ rfl
         rw[ak _ _ _ _ jb,ak _ _ _ _ jb,eY _ _ _ jb,ak _ _ _ _ jb]
     .have:t=a.length:=jb
      subst this
      simp(disch:=try exact jz)only[go_sem,am]
      exact⟨tv,U,t2,t3,t8,t37,t38,t39,q8,hU,hf4,hn4⟩
    .rintro _ tm σ4 ⟨rfl,tv,U,t2,t3,t8,t37,t38,t39,q8,hU,hf4,hn4⟩
     have pK:=hf4.le
     have htk:=hU.kn
     have q3':=hf4.get hf.wf q3
     have hak:=hN.kn
     have hx:RAi e.a tv (λb=>J'.aj<=b/\b<σ4.aj) σ4.h k:=by rw[hRA];exact hU.ad8.keep (λ_ _=>rfl) λb hb=>⟨jb,hb.2⟩
     have aDa:=hf.trans hf4
     rcases hN.cases with⟨rfl,rfl⟩|⟨hk0,b6,rfl,k1,k2,k3⟩
     .simp(disch:=try exact jz)only[go_sem,W3,au q8,htk,au q3',q3']
      refine⟨e.a.length-1,jb,1,_,aJ T 0 tv,rfl,jb,rfl,rfl,?_,?_,fr,jb⟩
      .exact hO.mono (λb h1 h2=>by rw[ak _ _ _ _ jb,ak _ _ _ _ jb,ak _ _ _ _ jb,hf4.old b jb]) jp jp
      .refine hN.push (apw e.a) hx (λb _ hb=>hf4.old b hb) pK jb jb hn2 (cells:=[tv]) rfl ?_ λb h1 h2 _=>?_
       .rw[ak _ _ _ _ jb,ay]
       .rw[ak _ _ _ _ jb,ak _ _ _ _ jb,ak _ _ _ _ jb]
     .have k1':=hf4.get hf.wf k1
      have hrl:=tK (n:=k) (G:=λj=>[T j]) (e:=1) λ_=>rfl
      have hrt:=jO (n:=k) (G:=λj=>[T j]) (e:=1) λ_=>rfl
      simp(disch:=try exact jz)only[go_sem,W3,au q8,htk,au q3',q3',k1']
      refine⟨e.a.length-(k+1),jb,k+1,_,aJ T k tv,rfl,jb,rfl,rfl,?_,?_,fr,jb⟩
      .exact hO.mono (λb h1 h2=>by rw[ak _ _ _ _ jb,ak _ _ _ _ jb,eY _ _ _ jb,ak _ _ _ _ jb,hf4.old b jb]) jp jp
      .refine hN.push (apw e.a) hx (λb _ hb=>hf4.old b hb) pK jb jb hn2 rfl ?_ λb h1 h2 h3=>?_
       .rw[ak _ _ _ _ jb,ay,hrt]
       .have h3:=h3 _ _ _ rfl
        rw[ak _ _ _ _ jb,ak _ _ _ _ jb,eY _ _ _ jb,ak _ _ _ _ jb]
   .have:k=e.a.length:=jb
    subst this
    simp(disch:=try exact jz)only[go_sem,am]
    exact⟨av,T,t2,t3,q3,hO,hN,hf,hn2⟩
  .rintro _ tm σ3 ⟨rfl,av,T,t2,t3,q3,hO3,hN,hf,hn2⟩
   have hle3:=hf.le
   have hF3:=hF.trans hf
   have hak:=hN.kn
   have q1:=hf.get hF.wf q1
   simp(disch:=try exact jz)only[go_sem,W3,au q3,hok,hak,aG q1]
   refine⟨⟨_,_,rfl,?_,?_⟩,fr⟩
   .exact(hO3.claims (p:=λb=>σ1.aj+1<=b/\b<σ2.aj) λb h1 h2=>⟨h1,h2⟩).keep (λb hb=>ak _ _ _ _ jb) λb hb=>⟨jb,by show b<σ3.aj;omega⟩
   .exact hN.aBr.keep (λb hb=>ak _ _ _ _ jb) λb hb=>⟨jb,hb.2⟩
end
def ag5(G:Nat->List B)(n:Nat):iC G n (G n)=G:=by
 funext i;unfold iC;split
 .next e=>rw[e]
 .rfl
def ZI(n:Nat)(G:Nat->List B):aY (n+1) G=aY n G++G n:=by rw[jv,ag5]
def apy{h:Tr Bk}{b o e:Nat}{l:List B}(hl:ld h b o e true=some (.agg l)):∃k,h b=some k/\k.rd=true/\(k.cells.drop o).take e=l/\l.length=e/\l.all B.kn=true:=by
 unfold ld at hl;cases hk:h b with
 |none=>rw[hk]at hl;cases hl
 |some k=>
  rw[hk]at hl
  dsimp only at hl
  cases hr:k.rd with
  |false=>rw[hr]at hl;cases hl
  |true=>
   rw[hr]at hl
   simp only[ce]at hl
   unfold yZ at hl
   dsimp only at hl
   cases hx:(Nat.beq ((k.cells.drop o).take e).length e&&((k.cells.drop o).take e).all B.kn)with
   |false=>rw[hx]at hl;cases hl
   |true=>
    rw[hx]at hl
    cases hl
    rw[ap]at hx
    exact⟨k,rfl,hr,rfl,aw hx.1,hx.2⟩
def ZJ{h:Tr Bk}{b o e:Nat}{G:Nat->List B}:∀{n:Nat},0<n->(∀i,i<n->ld h b (o+i*e) e true=some (.agg (G i)))->∃k,h b=some k/\k.rd=true/\(k.cells.drop o).take (n*e)=aY n G/\(aY n G).length=n*e/\(aY n G).all B.kn=true
 |0,h0,_=>jb
 |n+1,_,hl=>by
  obtain⟨k,h1,h2,h3,h4,h5⟩:=apy (hl n jb);by_cases hn:n=0
  .subst hn;rw[gi,bO]at h3;rw[ZI];refine⟨k,h1,h2,?_,?_,?_⟩
   .rw[ck,Nat.one_mul,h3];rfl
   .show([]++G 0).length=_;simp[h4]
   .show([]++G 0).all B.kn=_;simpa using h5
  .obtain⟨k',h1',-,h3',h4',h5'⟩:=ZJ (n:=n) jb λi hi=>hl i jb;rw[h1]at h1';cases h1';rw[ZI];refine⟨k,h1,h2,?_,?_,?_⟩
   .rw[cj,List.take_add,h3',iB,h3]
   .rw[ax,h4',h4,cj]
   .rw[List.all_append,h5',h5];rfl
def apz{p:Nat->Prop}{J:St}{e n:Nat}{v:B}{G:Nat->List B}(hl:aZ p J.h e v n G)(ty bytes:Nat)(s:V):agx ty e bytes s (.c v) J=rU ty e bytes s n (aY n G) J:=by
 rcases hl with⟨rfl,rfl⟩|⟨b,o,c,rfl,-,hld⟩
 .rfl
 .by_cases hn:n=0
  .subst hn;rfl
  .obtain⟨k,h1,h2,h3,h4,h5⟩:=ZJ jb hld;rw[ad1 _ _ _ _ _ _ _ _ _ jb,h1];dsimp only;rw[h2,h3,h4,h5,Y2];rfl
def ZK{J:St}(hW:WF J){p:Nat->Prop}{v:B}(l:List Ins.Lg)(hL:Bg p J.h v l)(hl:l.length<=1000):
  aC EN 95 [.c v] J λr J'=>(∃v',r=.c v'/\Bg (λb=>J.aj<=b/\b<J'.aj) J'.h v' l)/\Fr J J':=by
 refine aN (iM.o _ _) iM.h ?_
 unfold iM
 dsimp only
 have hF:Fr J ⟨hset J.h J.aj ⟨[],none⟩,J.aj+1⟩:=fr
 have hap:=λs=>apz (J:=⟨hset J.h J.aj ⟨[],none⟩,J.aj+1⟩) (aZ.fr hW hF hL) 99 16 s
 rcases hL with⟨h0,rfl⟩|⟨b,o,c,rfl,h1,h2⟩
 .refine WX ?_
  exact⟨⟨_,rfl,.inl ⟨h0,rfl⟩⟩,Fr.refl hW⟩
 .by_cases h0:l.length=0
  .rw[h0]at hap
   simp(disch:=try exact jz)only[go_sem,hap,h0]
   refine⟨⟨_,rfl,.inr ⟨J.aj,0,.ex 0,?_,λh=>jb,λi hi=>jb⟩⟩,hF⟩
   rw[h0]
  .simp(disch:=try exact jz)only[go_sem,hap]
   refine⟨⟨_,rfl,?_⟩,fr⟩
   exact bD _ (ay _ _ _) (by rw[Bd _ _ jb]) ⟨jb,bB _⟩ (λ_=>rfl) jj λ_ _=>rfl
end Go.Proofs.Xe
