import Derived.Test.YtchhojplceoifaaGreatDoorYf22
set_option linter.all false
set_option maxRecDepth 100000
set_option maxHeartbeats 8000000
namespace Go.Proofs.Xe
open Go.RowKit Go.Proofs.Ins
structure afP(k:Nat)(e:vP):Prop where
 c:e.c.length<=k
 a:e.a.length<=k
 t:∀j,j<e.a.length->(ix e.a j).length<=k
 p:∀j t,j<e.a.length->t<(ix e.a j).length->(ix (ix e.a j) t).length<=k
structure abp(k:Nat)(g:fC):Prop where
 e:∀i,i<g.e.length->afP k (ix g.e i)
 n:g.e.length<=k
 d:g.d.length<=k
 l:∀j,j<g.d.length->(ix g.d j).l.length<=k
def afP.up{k l:Nat}{e:vP}(h:afP k e)(hk:k<=l):afP l e:=⟨ap h.c hk,ap h.a hk,λj hj=>ap (h.t j hj) hk,λj t hj ht=>ap (h.p j t hj ht) hk⟩
def abp.up{k l:Nat}{g:fC}(h:abp k g)(hk:k<=l):abp l g:=⟨λi hi=>(h.e i hi).up hk,ap h.n hk,ap h.d hk,λj hj=>ap (h.l j hj) hk⟩
structure Built(σ σ':St)(ev dv:B)(g:fC):Prop where
 hg:qy (λb=>σ.aj<=b/\b<σ'.aj) σ'.h ev dv g
 s:GH 1000000 g
 n:g.e.length<=4
 c:∀i,i<g.e.length->(ix g.e i).c.length<=6
 z:SzG g
 fr:Fr σ σ'
 l:abp 8 g
def VE(x:Nat):(mP (amt x)).fits 1000:=xX ((qZ x).mono jb)
def afQ{w:Nat}(h:w<=16):(mP ((Int.ofNat w:Int):Rat)).fits 1000:=xX ((vF (k:=3) (by show w<16777216;omega) jj).mono jb)
def MO{r:R3}{k l:Nat}(h:r.fits k)(hkl:k<=l):r.fits l:=⟨ap h.1 hkl,ap h.2 hkl⟩
def lN.built{σ σ':St}{dv:B}{n eb:Nat}{m:Nat->Rat}{cl:Nat->List C5}{bs:Nat->Nat}{A:Nat->B}{al:Nat->List fD}{dl:List qx}{lo hi:Nat}(hg:lN σ'.h dv n eb m cl bs A al dl lo hi)(hn:n<=4)(hlo:σ.aj<=lo)(hhi:hi<=σ'.aj)(hm:∀i,i<n->∃v,m i=amt v)(hc:∀i,i<n->(cl i).length<=6/\∀k,k<(cl i).length->∃v,(ix (cl i) k).a=mP (amt v))
  (ha:∀i,i<n->Gp (cl i).length (al i)) (hd:dl.length<=3/\∀j,j<dl.length->(ix dl j).l.length<=4/\∃v,(ix dl j).w=mP (amt v)) (hf:Fr σ σ'):Built σ σ' (.sl eb 0 n .opn) dv ⟨gu n m cl al,dl⟩:=by
 have hlen:(gu n m cl al).length=n:=jD ..
 refine⟨(hg.grp .opn).keep (λ_ _=>rfl) λb hb=>⟨by have:=hb.1;omega,by have:=hb.2;omega⟩,⟨λi hi=>?_,λi hi=>?_,by show _<=_;rw[hlen];omega,by show dl.length<=_;have:=hd.1;omega,λi hi=>by have:=(hd.2 i hi).1;show(ix dl i).l.length<=_;omega⟩,by show _<=_;rw[hlen];exact hn,λi hi=>?_,λi hi k hk=>?_,hf,⟨λi hi=>?_,by show _<=_;rw[hlen];omega,by show dl.length<=_;have:=hd.1;omega,λj hj=>by have:=(hd.2 j hj).1;show(ix dl j).l.length<=_;omega⟩⟩
 .have hi:i<n:=by rw[<-hlen];exact hi
  show aa4 _ (ix (gu n m cl al) i)
  rw[je m cl al hi]
  obtain⟨a1,a2⟩:=ha i hi
  refine⟨?_,λk hk=>?_,λj t p hj ht hp=>?_,by show(cl i).length<=_;have:=(hc i hi).1;omega,by show(al i).length<=_;omega,λj hj=>by have:=(a2 j hj).1;show(ix (al i) j).length<=_;omega,λj t hj ht=>?_⟩
  .obtain⟨v,e⟩:=hm i hi
   show(mP (m i)).fits _
   rw[e];exact MO (VE v) jb
  .obtain⟨v,e⟩:=(hc i hi).2 k hk
   rw[e];exact MO (VE v) jb
  .have hj:j<(al i).length:=hj
   have ht:t<(ix (al i) j).length:=ht
   obtain⟨w,hw,e⟩:=(((a2 j hj).2 t (by have:=(a2 j hj).1;omega)).1 p hp).2
   rw[e];exact MO (afQ hw) jb
  .have hj:j<(al i).length:=hj
   have ht:t<(ix (al i) j).length:=ht
   have h9:=((a2 j hj).2 t (by have:=(a2 j hj).1;omega)).2
   have:=(hc i hi).1
   show(ix (ix (al i) j) t).length<=_
   omega
 .obtain⟨-,v,e⟩:=hd.2 i hi
  rw[e];exact MO (VE v) jb
 .have hi:i<n:=by rw[<-hlen];exact hi
  show(ix (gu n m cl al) i).c.length<=6
  rw[je m cl al hi];exact(hc i hi).1
 .have hi:i<n:=by rw[<-hlen];exact hi
  have hk:k<(ix (gu n m cl al) i).c.length:=hk
  show(ix (ix (gu n m cl al) i).c k).a.s.size+(ix (ix (gu n m cl al) i).c k).a.d.size<=_/\Sz (ix (ix (gu n m cl al) i).c k).a.q
  rw[je m cl al hi]at hk⊢
  obtain⟨v,e⟩:=(hc i hi).2 k hk
  show(ix (cl i) k).a.s.size+(ix (cl i) k).a.d.size<=_/\Sz (ix (cl i) k).a.q
  rw[e,og]
  exact⟨(aji v).two,aji v⟩
 .have hi:i<n:=by rw[<-hlen];exact hi
  show afP 8 (ix (gu n m cl al) i)
  rw[je m cl al hi]
  obtain⟨a1,a2⟩:=ha i hi
  have hc6:=(hc i hi).1
  refine⟨by show(cl i).length<=_;omega,by show(al i).length<=_;omega,λj hj=>by have:=(a2 j hj).1;show(ix (al i) j).length<=_;omega,λj t hj ht=>?_⟩
  have hj:j<(al i).length:=hj
  have ht:t<(ix (al i) j).length:=ht
  have:=((a2 j hj).2 t (by have:=(a2 j hj).1;omega)).2
  show(ix (ix (al i) j) t).length<=_
  omega
def sV{α:Type}[Inhabited α](f:Nat->α){n i:Nat}(h:i<n):ix ((List.range n).map f) i=f i:=by rw[dU (by simpa using h)];simp
structure GR(C:B->List B)(σ σ':St)(t12 i:Nat)(gvv:B)(R:Nat->B)(ns:Nat->Nat)(M:Nat->Nat->Nat):Prop where
 b:σ'.h t12=some ⟨C gvv,none⟩
 v:(i=0/\gvv=.aP)\/∃b,gvv=.sl b 0 i .opn/\0<i/\σ'.h b=some ⟨ones i R,some (1,30)⟩/\t12+1<=b/\b<σ'.aj/\∀j,j<i->aX (λx=>t12+1<=x/\x<b) σ'.h 3 (R j) (min (ns j) 8) λk=>dO (amt (M j k))
 nx:t12+1<=σ'.aj
 fr:Fr σ σ'

def NL(Q:(Nat->Prop)->Tr Bk->Nat->Prop)(h:Tr Bk)(v:B)(n:Nat)(G:Nat->List B)(e ty lo hi:Nat):Prop:=
 (n=0/\v=.aP)\/(0<n/\∃b,v=.sl b 0 n .opn/\h b=some ⟨bC n G,some (e,ty)⟩/\lo<=b/\b<hi/\∀j,j<n->Q (λx=>lo<=x/\x<b) h j)
def QK(Q:(Nat->Prop)->Tr Bk->Nat->Prop)(j:Nat):Prop:=∀(p q:Nat->Prop) (h h':Tr Bk),Q p h j->(∀b,p b->h' b=h b)->(∀b,p b->q b)->Q q h' j
section
variable {Q:(Nat→Prop)→Tr Bk→Nat→Prop} {h h' : Tr Bk} {v:B} {n:Nat} {G G' : Nat→List B} {e ty lo hi:Nat}
theorem NL.nil:NL Q h .aP 0 G e ty lo hi:=.inl ⟨rfl,rfl⟩
def NL.own(ho:NL Q h v n G e ty lo hi):iU h v n G e ty lo hi:=by
 rcases ho with h1|⟨h0,b,rfl,h1,h2,h3,-⟩
 .exact .inl h1
 .exact .inr ⟨h0,b,rfl,h1,h2,h3⟩
def NL.mono(ho:NL Q h v n G e ty lo hi)(hQ:∀j,j<n->QK Q j)(hh:∀b,lo<=b->b<hi->h' b=h b){hi':Nat}(h2:hi<=hi'):NL Q h' v n G e ty lo hi':=by
 rcases ho with h1|⟨h0,b,rfl,k1,k2,k3,k4⟩
 .exact .inl h1
 .exact .inr ⟨h0,b,rfl,by grind,k2,jb,λj hj=>hQ j hj _ _ _ _ (k4 j hj) (λx hx=>hh x hx.1 jb) λx hx=>hx⟩
def NL.el(ho:NL Q h v n G e ty lo hi)(hQ:∀j,j<n->QK Q j){j:Nat}(hj:j<n):Q (λx=>lo<=x/\x<hi) h j:=by
 rcases ho with⟨h1,-⟩|⟨h0,b,rfl,k1,k2,k3,k4⟩
 .omega
 .exact hQ j hj _ _ _ _ (k4 j hj) (λ_ _=>rfl) λx hx=>⟨hx.1,jb⟩
def NL.push(ho:NL Q h v n G e ty lo hi)(hQ:∀j,j<=n->QK Q j){x:List B}{hi1 nx n':Nat}{h1:Tr Bk}(hx:Q (λb=>hi<=b/\b<hi1) h1 n)(hh:∀b,lo<=b->b<hi->h1 b=h b)(h2:hi<=hi1)(h3:hi1<=nx)(h4:nx<n')(h5:lo<=hi){cells:List B}(hc:cells=bC n G++x)
  (hb:h' nx=some ⟨cells,some (e,ty)⟩) (hk:∀b,lo<=b->b<hi1->(∀c m k,v=.sl c 0 m k->b≠c)->h' b=h1 b) (hg:∀i,i<n->G' i=G i) (hgn:G' n=x):NL Q h' (.sl nx 0 (n+1) .opn) (n+1) G' e ty lo n':=by
 refine .inr ⟨jb,nx,rfl,?_,jb,h4,λj hj=>?_⟩
 .grind[Go.Proofs.Xe.jw,Go.Proofs.Xe.bH,Go.Proofs.Xe.iR]
 .by_cases e:j=n
  .subst e
   refine hQ j jb _ _ _ _ hx (λx hx=>hk x jb hx.2 λc m k e=>?_) λx hx=>⟨jb,jb⟩
   rcases ho with⟨-,rfl⟩|⟨-,b,rfl,-,-,k3,-⟩
   .cases e
   grind
  .rcases ho with⟨rfl,rfl⟩|⟨h0,b,rfl,k1,k2,k3,k4⟩
   .omega
   .exact hQ j jb _ _ _ _ (k4 j jb) (λx hx=>by grind) λx hx=>⟨hx.1,jb⟩
def NL.congr{Q':(Nat->Prop)->Tr Bk->Nat->Prop}(ho:NL Q h v n G e ty lo hi)(hQ:∀j,j<n->∀p h,Q p h j->Q' p h j)(hG:∀j,j<n->G j=G' j):NL Q' h v n G' e ty lo hi:=by
 rcases ho with h1|⟨h0,b,rfl,k1,k2,k3,k4⟩
 .exact .inl h1
 .exact .inr ⟨h0,b,rfl,by rw[k1,bH hG],k2,k3,λj hj=>hQ j hj _ _ (k4 j hj)⟩
def NL.down(ho:NL Q h v n G e ty lo hi)(hQ:∀j,j<n->QK Q j){lo2:Nat}(hl:lo2<=lo):NL Q h v n G e ty lo2 hi:=by
 rcases ho with h1|⟨h0,b,rfl,k1,k2,k3,k4⟩
 .exact .inl h1
 .exact .inr ⟨h0,b,rfl,k1,jb,k3,λj hj=>hQ j hj _ _ _ _ (k4 j hj) (λ_ _=>rfl) λx hx=>⟨jb,hx.2⟩⟩
def iU.of{h:Tr Bk}{nx n:Nat}{G:Nat->List B}{e ty lo hi:Nat}(hb:h nx=some ⟨bC n G++G n,some (e,ty)⟩)(h1:lo<=nx)(h2:nx<hi):iU h (.sl nx 0 (n+1) .opn) (n+1) G e ty lo hi:=by refine .inr ⟨jb,nx,rfl,?_,h1,h2⟩;grind[Go.Proofs.Xe.jw,Go.Proofs.Xe.bH,Go.Proofs.Xe.iR]
end
section
variable {R:B→(Nat→Prop)→Tr Bk→Nat→Prop} {U:Nat→B} {h h' h1:Tr Bk} {v x:B} {n ty lo hi hi1 nx n' : Nat}
def NU(R:B->(Nat->Prop)->Tr Bk->Nat->Prop)(U:Nat->B)(h:Tr Bk)(v:B)(n ty lo hi:Nat):Prop:=NL (λp h j=>R (U j) p h j) h v n (λj=>[U j]) 1 ty lo hi
def RK(R:B->(Nat->Prop)->Tr Bk->Nat->Prop):Prop:=∀u j (p q:Nat->Prop) (h h':Tr Bk),R u p h j->(∀b,p b->h' b=h b)->(∀b,p b->q b)->R u q h' j
def NU.el(ho:NU R U h v n ty lo hi)(hR:RK R){j:Nat}(hj:j<n):R (U j) (λx=>lo<=x/\x<hi) h j:=NL.el ho (λj _=>hR (U j) j) hj
def NU.kn(ho:NU R U h v n ty lo hi):v.kn=true:=iU.kn (NL.own ho)
def NU.cases(ho:NU R U h v n ty lo hi):(n=0/\v=.aP)\/(0<n/\∃b,v=.sl b 0 n .opn/\h b=some ⟨bC n (λj=>[U j]),some (1,ty)⟩/\lo<=b/\b<hi):=NL.own ho
def NU.push(ho:NU R U h v n ty lo hi)(hR:RK R)(hx:R x (λb=>hi<=b/\b<hi1) h1 n)(hh:∀b,lo<=b->b<hi->h1 b=h b)(h2:hi<=hi1)(h3:hi1<=nx)(h4:nx<n')(h5:lo<=hi){cells:List B}(hc:cells=bC n (λj=>[U j])++[x])
  (hb:h' nx=some ⟨cells,some (1,ty)⟩) (hk:∀b,lo<=b->b<hi1->(∀c m k,v=.sl c 0 m k->b≠c)->h' b=h1 b):NU R (aN U n x) h' (.sl nx 0 (n+1) .opn) (n+1) ty lo n':=by
 have ho':NL (λp h j=>R (aN U n x j) p h j) h v n (λj=>[aN U n x j]) 1 ty lo hi:=NL.congr ho (λj hj p h hq=>by grind[aS]) λj hj=>by grind[aS]
 refine NL.push ho' (λj _=>hR (aN U n x j) j) (hi1:=hi1) (h1:=h1) (x:=[x]) (by grind[aK]) hh h2 h3 h4 h5 ?_ hb hk (λ_ _=>rfl) (by rw[aK])
 grind[bH,aS]
end
def qE{r:R3}{k:Nat}(h:r.fits k)(hk:k<=50000000):r.s.size+r.d.size<=130000000:=by have:=h.1;have:=h.2;omega
def att{r:R3}{k:Nat}(h:r.fits k)(hk:k<=20000000):Sz r.q:=(aaO r.n r.s r.d).mono (by have:=h.1;have:=h.2;unfold szK;omega)
def dP.kn{p:Nat->Prop}{h:Tr Bk}{v:B}{l:fD}(hl:dP p h v l):v.kn=true:=hl.choose_spec.1.kn
def iG.at{p:Nat->Prop}{h:Tr Bk}{v:B}{l:List fD}(hl:iG p h v l){j:Nat}(hj:j<l.length):∃b o c,v=.sl b o l.length c/\∃T:B,ld h b (o+j*1) 1 true=some (.agg [T])/\dP p h T (ix l j):=by obtain⟨T,h1,h2⟩:=hl;obtain⟨b,o,c,e,-,hld⟩:=h1.pos jb;grind
def dP.at{p:Nat->Prop}{h:Tr Bk}{v:B}{l:fD}(hl:dP p h v l){j:Nat}(hj:j<l.length):∃b o c,v=.sl b o l.length c/\∃T:B,ld h b (o+j*1) 1 false=some (.c T)/\wB p h T (ix l j):=by obtain⟨T,h1,h2⟩:=hl;obtain⟨b,o,c,e,-,hld⟩:=h1.pos jb;exact⟨b,o,c,e,T j,(sU (hld j hj)).1,h2 j hj⟩
def iG.len{p:Nat->Prop}{h:Tr Bk}{v:B}{l:List fD}(hl:iG p h v l):lenV (.c v)=some (jN l.length):=hl.choose_spec.1.len
def dP.len{p:Nat->Prop}{h:Tr Bk}{v:B}{l:fD}(hl:dP p h v l):lenV (.c v)=some (jN l.length):=hl.choose_spec.1.len
def iU.cases{h:Tr Bk}{v:B}{n:Nat}{G:Nat->List B}{e ty lo hi:Nat}(ho:iU h v n G e ty lo hi):(n=0/\v=.aP)\/(0<n/\∃b,v=.sl b 0 n .opn/\h b=some ⟨bC n G,some (e,ty)⟩/\lo<=b/\b<hi):=ho
def sW{e n:Nat}{G:Nat->List B}(hG:∀j,(G j).length=e):n*e<=(bC n G).length:=by grind[qB]
theorem dP.fr{σ σ':St}(hW:WF σ)(hf:Fr σ σ'){p:Nat->Prop}{v:B}{l:fD}(hl:dP p σ.h v l):dP (Lt σ.aj) σ'.h v l:=by obtain⟨T,h1,h2⟩:=hl;exact⟨T,h1.fr hW hf,λi hi=>(h2 i hi).fr hW hf⟩
def clR(r:R3):R3:=mP r.q
def atu(x:yw):yw:=⟨x.k,x.b,clR x.a⟩
def LP(x:C5):C5:=⟨x.h,x.r,clR x.a⟩
def afR(t:List yw):List yw:=t.map atu
def G7(a:fD):fD:=a.map afR
def abq(d:qx):qx:=⟨clR d.w,d.l⟩
def J3{α β:Type}[Inhabited α][Inhabited β](f:α->β)(l:List α){i:Nat}(h:i<l.length):ix (l.map f) i=f (ix l i):=by rw[dU (by simpa using h),dU h];simp
section
variable {p:Nat→Prop} {h:Tr Bk} {v:B} {ty lo hi:Nat}
def iU.parts{t:List yw}(ho:iU h v t.length (λk=>Ae (atu (ix t k))) 5 ty lo hi)(hp:∀b,lo<=b->b<hi->p b):wB p h v (afR t):=by have:=ho.hlp (p:=p) (λ_=>rfl) jj (λ_ _=>rfl) hp;have hl:(afR t).length=t.length:=cA ..;unfold wB;rw[hl];exact this.congr λk hk=>by rw[afR,J3 _ _ hk]
def iU.claims{c:List C5}(ho:iU h v c.length (λk=>Xb (LP (ix c k))) 5 ty lo hi)(hp:∀b,lo<=b->b<hi->p b):oN p h v (c.map LP):=by have:=ho.hlp (p:=p) (λ_=>rfl) jj (λ_ _=>rfl) hp;have hl:(c.map LP).length=c.length:=cA ..;unfold oN;rw[hl];exact this.congr λk hk=>by rw[J3 _ _ hk]
def RTi(a:fD)(u:B)(p:Nat->Prop)(h:Tr Bk)(t:Nat):Prop:=wB p h u (afR (ix a t))
def RAi(l:List fD)(u:B)(p:Nat->Prop)(h:Tr Bk)(j:Nat):Prop:=dP p h u (G7 (ix l j))
def aod(a:fD):RK (RTi a):=λ_ _ _ _ _ _ hp hk hq=>aX.keep hp hk hq
def aoe(l:List fD):RK (RAi l):=λ_ _ _ _ _ _ hp hk hq=>dP.keep hp hk hq
def NU.ac0{U:Nat->B}{a:fD}(ho:NU (RTi a) U h v a.length ty lo hi):dP (λb=>lo<=b/\b<hi) h v (G7 a):=by
 have hl:(G7 a).length=a.length:=cA ..;refine⟨U,?_,λt ht=>?_⟩
 .rw[hl];exact iU.hlp (NL.own ho) (λ_=>rfl) jj (λt ht=>by simp only[cD,dj,aX.kn (ho.el (aod a) ht),cU]) λb h1 h2=>⟨h1,h2⟩
 .rw[hl]at ht;rw[G7,J3 _ _ ht];exact ho.el (aod a) ht
def NU.azE{T:Nat->B}{l:List fD}(ho:NU (RAi l) T h v l.length ty lo hi):iG (λb=>lo<=b/\b<hi) h v (l.map G7):=by
 have hl:(l.map G7).length=l.length:=cA ..;refine⟨T,?_,λt ht=>?_⟩
 .rw[hl];exact iU.hlp (NL.own ho) (λ_=>rfl) jj (λt ht=>by simp only[cD,dj,dP.kn (ho.el (aoe l) ht),cU]) λb h1 h2=>⟨h1,h2⟩
 .rw[hl]at ht;rw[J3 _ _ ht];exact ho.el (aoe l) ht
end
def MP{σ:St}(hW:WF σ)(r:R3)(hr:r.fits 1000000):aC EN 171 [.agg [.bool r.n,.str r.s,.str r.d]] σ λv σ'=>v=rV r.q/\Fr σ σ':=by refine aO (pX.o _ _) pX.h ?_;unfold pX;dsimp only;have hq:=qE hr jj;have hz:=Sz.zero;have hz2:=hz.two;simp(disch:=try exact jz) only[go_sem,hq,hz,hz2];refine⟨?_,fr⟩;unfold rV;rw[cY];rfl
def ccF(c:List C5):Nat->List B:=λk=>Xb (LP (ix c k))
def cpF(t:List yw):Nat->List B:=λk=>Ae (atu (ix t k))
section
variable {m0 m1 m2:B}
def afS{σ:St}(hW:WF σ){p p':Nat->Prop}(e:vP)(he:aa4 1000000 e)(hl:afP 1000 e){C A:B}(hC:oN p σ.h C e.c)(hA:iG p' σ.h A e.a):
  aC EN 170 [.agg [.bool e.m.n,.str e.m.s,.str e.m.d,C,A]] σ λr σ'=>(∃C' A',r=.agg [.bool (rn e.m.q),.str (rs e.m.q),.str (rd e.m.q),C',A']/\oN (λb=>σ.aj<=b/\b<σ'.aj) σ'.h C' (e.c.map LP)/\iG (λb=>σ.aj<=b/\b<σ'.aj) σ'.h A' (e.a.map G7))/\Fr σ σ':=by
 refine aO (lI.o _ _) lI.h ?_
 unfold lI
 dsimp only
 have LM:=aX.kn hC
 have hAk:=hA.kn
 have I5:=aX.len hC
 have hlenA:=hA.len
 have hlc:=hl.c
 have hla:=hl.a
 simp(disch:=try exact jz) only[go_sem,LM,hAk]
 refine aC.st (Fr σ) (fr) λhF1=>?_
 refine(MP hF1.wf e.m he.m).mono ?_
 rintro _ σ1 ⟨rfl,hf1⟩
 unfold rV
 have hF:=hF1.trans hf1
 have hle1:σ.aj+1+1<=σ1.aj:=hf1.le
 have q0:σ1.h σ.aj=some ⟨[.bool e.m.n,.str e.m.s,.str e.m.d,C,A],none⟩:=hf1.get hF1.wf ((ak _ _ _ _ jb).trans (aA _ _ _))
 have q1:σ1.h (σ.aj+1)=some ⟨[.bool (rn 0),.str (rs 0),.str (rd 0),.aP,.aP],none⟩:=hf1.get hF1.wf (aA _ _ _)
 generalize e.m.q=mq at*
 simp(disch:=try exact jz) only[go_sem,LM,hAk,I5,au q0]
 refine bM.mono (Q:=λex tm σ'=>ex=.exit 0/\∃cv,Tr.ah tm 1=.c (.ptr σ.aj 0)/\Tr.ah tm 2=.c (.ptr (σ.aj+1) 0)/\Tr.ah tm 3=.c (.ptr σ1.aj 0)/\σ'.h σ1.aj=some ⟨[.bool (rn mq),.str (rs mq),.str (rd mq),cv,.aP],none⟩/\iU σ'.h cv e.c.length (ccF e.c) 5 84 (σ1.aj+1) σ'.aj/\Fr σ1 σ'/\σ1.aj+1<=σ'.aj)
  (aF (λq tm σ'=>∃k cv,q=e.c.length-k/\k<=e.c.length/\Tr.ah tm 1=.c (.ptr σ.aj 0)/\Tr.ah tm 2=.c (.ptr (σ.aj+1) 0)/\Tr.ah tm 3=.c (.ptr σ1.aj 0)/\Tr.ah tm 19=.c C/\Tr.ah tm 20=jN e.c.length/\Tr.ah tm 21=jN k
   /\σ'.h σ1.aj=some ⟨[.bool (rn mq),.str (rs mq),.str (rd mq),cv,.aP],none⟩/\iU σ'.h cv k (ccF e.c) 5 84 (σ1.aj+1) σ'.aj/\Fr σ1 σ'/\σ1.aj+1<=σ'.aj) e.c.length ?_ ?_) ?_
 .refine⟨0,.aP,jb,jb,?_⟩
  simp(disch:=try exact jz) only[go_sem,am]
  have hFr:=Fr.refl hF.wf
  exact⟨.nil,fr,jb⟩
 .rintro q tm σ' ⟨k,cv,rfl,hk,t1,t2,t3,t19,t20,t21,q3,hO,hf,hnx⟩
  have hle:=hf.le
  simp(disch:=try exact jz) only[go_sem,t1,t2,t3,t19,t20,t21,aG]
  refine aH (λhlt=>?_) (λhlt=>?_)
  .obtain⟨b5,o5,c5,rfl,-,bf⟩:=aX.pos hC jb
   have bf:=(hF.trans hf).ld hW (bf k hlt)
   unfold Xb at bf
   have hfit:=he.c k hlt
   have hG:ccF e.c k=[.int .i64 (ix e.c k).h,.int .i64 (ix e.c k).r,.bool (rn (ix e.c k).a.q),.str (rs (ix e.c k).a.q),.str (rd (ix e.c k).a.q)]:=rfl
   simp(disch:=try exact jz) only[go_sem,t1,t2,t3,t19,t20,t21,bf]
   refine aC.st (Fr σ') (by have hFr:=Fr.refl hf.wf;exact fr) λhF3=>?_
   refine(MP hF3.wf _ hfit).mono ?_
   rintro _ σ4 ⟨rfl,hf4⟩
   unfold rV
   have jr:=hF3.trans hf4
   have pY:σ'.aj+1<=σ4.aj:=hf4.le
   have q3':=jr.get hf.wf q3
   have q5:σ4.h σ'.aj=some ⟨[.int .i64 (ix e.c k).h,.int .i64 (ix e.c k).r,.bool (ix e.c k).a.n,.str (ix e.c k).a.s,.str (ix e.c k).a.d],none⟩:=hf4.get hF3.wf (aA _ _ _)
   have hok:=hO.kn
   have abr:=hf.trans jr
   rcases hO.cases with⟨rfl,rfl⟩|⟨hk0,b6,rfl,k1,k2,k3⟩
   .simp(disch:=try exact jz) only[go_sem,t1,t2,t3,t19,t20,t21,aI q5,au q3',q3']
    refine⟨e.c.length-1,jb,1,_,rfl,jb,rfl,rfl,iU.of (n:=0) (by rw[ak _ _ _ _ jb,aA];rfl) jb jb,fr,jb⟩
   .have hrl:=sW (n:=k) (G:=ccF e.c) (e:=5) λ_=>rfl
    have hrt:=jC (n:=k) (G:=ccF e.c) (e:=5) λ_=>rfl
    have k1':=jr.get hf.wf k1
    simp(disch:=try exact jz) only[go_sem,t1,t2,t3,t19,t20,t21,aI q5,au q3',q3',k1']
    refine⟨e.c.length-(k+1),jb,k+1,_,rfl,jb,rfl,rfl,iU.of (by rw[ak _ _ _ _ jb,aA,hrt];rfl) jb jb,fr,jb⟩
  .have:k=e.c.length:=jb
   subst this
   simp(disch:=try exact jz) only[go_sem,am]
   exact⟨cv,t1,t2,t3,q3,hO,hf,hnx⟩
 .rintro _ tm σ2 ⟨rfl,cv,t1,t2,t3,q3,hO,hf,hnx⟩
  have hle2:=hf.le
  have hF2:=hF.trans hf
  have hok:=hO.kn
  have q0':=hf.get hF.wf q0
  clear q0
  simp(disch:=try exact jz) only[go_sem,t1,t2,t3,au q0',hlenA,hAk,LM]
  refine bM.mono (Q:=λex tm σ'=>ex=.exit 2/\∃av T,Tr.ah tm 2=.c (.ptr (σ.aj+1) 0)/\Tr.ah tm 3=.c (.ptr σ1.aj 0)/\σ'.h σ1.aj=some ⟨[.bool (rn mq),.str (rs mq),.str (rd mq),cv,av],none⟩/\iU σ'.h cv e.c.length (ccF e.c) 5 84 (σ1.aj+1) σ2.aj/\NU (RAi e.a) T σ'.h av e.a.length 129 σ2.aj σ'.aj/\Fr σ1 σ'/\σ2.aj<=σ'.aj)
   (aF (λq tm σ'=>∃k av T,q=e.a.length-k/\k<=e.a.length/\Tr.ah tm 2=.c (.ptr (σ.aj+1) 0)/\Tr.ah tm 3=.c (.ptr σ1.aj 0)/\Tr.ah tm 37=.c A/\Tr.ah tm 38=jN e.a.length/\Tr.ah tm 39=jN k
    /\σ'.h σ1.aj=some ⟨[.bool (rn mq),.str (rs mq),.str (rd mq),cv,av],none⟩/\iU σ'.h cv e.c.length (ccF e.c) 5 84 (σ1.aj+1) σ2.aj/\NU (RAi e.a) T σ'.h av k 129 σ2.aj σ'.aj/\Fr σ1 σ'/\σ2.aj<=σ'.aj) e.a.length ?_ ?_) ?_
  .refine⟨0,.aP,λ_=>.aP,jb,jb,?_⟩
   simp(disch:=try exact jz) only[go_sem,t2,t3,am]
   exact⟨q3,hO,NL.nil,hf,jb⟩
  .rintro q tm σ' ⟨k,av,T,rfl,hk,t2,t3,t37,t38,t39,q3,hO,hN,hf,hn2⟩
   have hle:=hf.le
   simp(disch:=try exact jz) only[go_sem,t2,t3,t37,t38,t39,aG]
   refine aH (λhlt=>?_) (λhlt=>?_)
   .obtain⟨b5,o5,c5,rfl,T1,bf,hT1⟩:=hA.at hlt
    have bf:=(hF.trans hf).ld hW bf
    have azF:=hT1.kn
    have ajs:=hT1.len
    have hlt1:=hl.t k hlt
    have azG:=hl.p k
    have axb:=he.a k
    have hRA:∀u p h,RAi e.a u p h k=dP p h u (G7 (ix e.a k)):=λ_ _ _=>rfl
    generalize ix e.a k=a at*
    simp(disch:=try exact jz) only[go_sem,t2,t3,t37,t38,t39,bf,azF,ajs]
    refine bM.mono (Q:=λex tm σ4=>ex=.exit 4/\∃tv U,Tr.ah tm 2=.c (.ptr (σ.aj+1) 0)/\Tr.ah tm 3=.c (.ptr σ1.aj 0)/\Tr.ah tm 8=.c (.ptr (σ'.aj+1) 0)/\Tr.ah tm 37=.c (.sl b5 o5 e.a.length c5)/\Tr.ah tm 38=jN e.a.length/\Tr.ah tm 39=jN k
     /\σ4.h (σ'.aj+1)=some ⟨[tv],none⟩/\NU (RTi a) U σ4.h tv a.length 127 (σ'.aj+1+1) σ4.aj/\Fr σ' σ4/\σ'.aj+1+1<=σ4.aj)
     (aF (λq tm σ4=>∃t tv U,q=a.length-t/\t<=a.length/\Tr.ah tm 2=.c (.ptr (σ.aj+1) 0)/\Tr.ah tm 3=.c (.ptr σ1.aj 0)/\Tr.ah tm 8=.c (.ptr (σ'.aj+1) 0)/\Tr.ah tm 37=.c (.sl b5 o5 e.a.length c5)/\Tr.ah tm 38=jN e.a.length/\Tr.ah tm 39=jN k/\Tr.ah tm 44=.c T1/\Tr.ah tm 45=jN a.length/\Tr.ah tm 46=jN t
      /\σ4.h (σ'.aj+1)=some ⟨[tv],none⟩/\NU (RTi a) U σ4.h tv t 127 (σ'.aj+1+1) σ4.aj/\Fr σ' σ4/\σ'.aj+1+1<=σ4.aj) a.length ?_ ?_) ?_
    .refine⟨0,.aP,λ_=>.aP,jb,jb,?_⟩
     simp(disch:=try exact jz) only[go_sem,t2,t3,t37,t38,t39,am]
     have hFr:=Fr.refl hf.wf
     exact⟨NL.nil,fr,jb⟩
    .rintro q tm σ4 ⟨t,tv,U,rfl,ht,t2,t3,t8,t37,t38,t39,t44,t45,t46,q8,hU,hf4,hn4⟩
     have pY:=hf4.le
     simp(disch:=try exact jz) only[go_sem,t2,t3,t8,t37,t38,t39,t44,t45,t46,aG]
     refine aH (λaof=>?_) (λaof=>?_)
     .obtain⟨b6,o6,c6,rfl,P1,bJ,hP1⟩:=hT1.at aof
      have bJ:=(hF.trans (hf.trans hf4)).ld hW bJ
      have atw:=aX.kn hP1
      have I4:=aX.len hP1
      have aA7:=azG t hlt aof
      have axc:=axb t
      have hRT:∀u p h,RTi a u p h t=wB p h u (afR (ix a t)):=λ_ _ _=>rfl
      generalize ix a t=r at*
      simp(disch:=try exact jz) only[go_sem,t2,t3,t8,t37,t38,t39,t44,t45,t46,bJ,atw,I4]
      refine bM.mono (Q:=λex tm σ5=>ex=.exit 6/\∃lv,Tr.ah tm 2=.c (.ptr (σ.aj+1) 0)/\Tr.ah tm 3=.c (.ptr σ1.aj 0)/\Tr.ah tm 8=.c (.ptr (σ'.aj+1) 0)/\Tr.ah tm 37=.c (.sl b5 o5 e.a.length c5)/\Tr.ah tm 38=jN e.a.length/\Tr.ah tm 39=jN k/\Tr.ah tm 44=.c (.sl b6 o6 a.length c6)/\Tr.ah tm 45=jN a.length/\Tr.ah tm 46=jN t/\Tr.ah tm 11=.c lv/\iU σ5.h lv r.length (cpF r) 5 126 σ4.aj σ5.aj/\Fr σ4 σ5)
       (aF (λq tm σ5=>∃l lv,q=r.length-l/\l<=r.length/\Tr.ah tm 2=.c (.ptr (σ.aj+1) 0)/\Tr.ah tm 3=.c (.ptr σ1.aj 0)/\Tr.ah tm 8=.c (.ptr (σ'.aj+1) 0)/\Tr.ah tm 37=.c (.sl b5 o5 e.a.length c5)/\Tr.ah tm 38=jN e.a.length/\Tr.ah tm 39=jN k/\Tr.ah tm 44=.c (.sl b6 o6 a.length c6)/\Tr.ah tm 45=jN a.length/\Tr.ah tm 46=jN t/\Tr.ah tm 11=.c lv/\Tr.ah tm 50=.c P1/\Tr.ah tm 51=jN r.length/\Tr.ah tm 52=jN l
        /\iU σ5.h lv l (cpF r) 5 126 σ4.aj σ5.aj/\Fr σ4 σ5) r.length ?_ ?_) ?_
      .refine⟨0,.aP,jb,jb,?_⟩
       simp(disch:=try exact jz) only[go_sem,t2,t3,t8,t37,t38,t39,t44,t45,t46,am]
       exact⟨.nil,Fr.refl hf4.wf⟩
      .rintro q tm σ5 ⟨l,lv,rfl,hll,t2,t3,t8,t37,t38,t39,t44,t45,t46,t11,t50,t51,t52,hO5,hf5⟩
       have uU:=hf5.le
       simp(disch:=try exact jz) only[go_sem,t2,t3,t8,t37,t38,t39,t44,t45,t46,t11,t50,t51,t52,aG]
       refine aH (λI7=>?_) (λI7=>?_)
       .obtain⟨b7,o7,c7,rfl,-,dB⟩:=aX.pos hP1 jb
        have dB:=((hF.trans (hf.trans hf4)).trans hf5).ld hW (dB l I7)
        unfold Ae at dB
        have axd:=axc l hlt aof I7
        simp(disch:=try exact jz) only[go_sem,t2,t3,t8,t37,t38,t39,t44,t45,t46,t11,t50,t51,t52,dB]
        refine aC.st (Fr σ5) (by have hFr:=Fr.refl hf5.wf;exact fr) λkL=>?_
        refine(MP kL.wf _ axd).mono ?_
        rintro _ σ6 ⟨rfl,gV⟩
        unfold rV
        have axe:=kL.trans gV
        have yZ:σ5.aj+1<=σ6.aj:=gV.le
        have q9:σ6.h σ5.aj=some ⟨[.int .i64 (ix r l).k,.bool (ix r l).b,.bool (ix r l).a.n,.str (ix r l).a.s,.str (ix r l).a.d],none⟩:=gV.get kL.wf (aA _ _ _)
        have hlk:=hO5.kn
        have aA8:=hf5.trans axe
        rcases hO5.cases with⟨rfl,rfl⟩|⟨hl0,b8,rfl,k1,k2,k3⟩
        .simp(disch:=try exact jz) only[go_sem,t2,t3,t8,t37,t38,t39,t44,t45,t46,t11,t50,t51,t52,aI q9]
         refine⟨r.length-1,jb,1,_,rfl,jb,rfl,rfl,iU.of (n:=0) (by rw[aA];rfl) jb jb,fr⟩
        .have k1':=axe.get hf5.wf k1
         have hrl:=sW (n:=l) (G:=cpF r) (e:=5) λ_=>rfl
         have hrt:=jC (n:=l) (G:=cpF r) (e:=5) λ_=>rfl
         simp(disch:=try exact jz) only[go_sem,t2,t3,t8,t37,t38,t39,t44,t45,t46,t11,t50,t51,t52,aI q9,k1']
         refine⟨r.length-(l+1),jb,l+1,_,rfl,jb,rfl,rfl,iU.of (by rw[aA,hrt];rfl) jb jb,fr⟩
       .have:l=r.length:=jb
        subst this
        simp(disch:=try exact jz) only[go_sem,am]
        exact⟨lv,t2,t3,t8,t37,t38,t39,t44,t45,t46,t11,hO5,hf5⟩
      .rintro _ tm σ5 ⟨rfl,lv,t2,t3,t8,t37,t38,t39,t44,t45,t46,t11,hO5,hf5⟩
       have uU:=hf5.le
       have hlk:=hO5.kn
       have htk:=hU.kn
       have q8':=hf5.get hf4.wf q8
       have aA9:=hf4.trans hf5
       have hx:RTi a lv (λb=>σ4.aj<=b/\b<σ5.aj) σ5.h t:=by rw[hRT];exact hO5.parts λb h1 h2=>⟨h1,h2⟩
       rcases hU.cases with⟨rfl,rfl⟩|⟨ht0,b8,rfl,k1,k2,k3⟩
       .simp(disch:=try exact jz) only[go_sem,t2,t3,t8,t37,t38,t39,t44,t45,t46,t11,au q8',q8',hlk]
        refine⟨a.length-1,jb,1,_,aN U 0 lv,rfl,jb,rfl,rfl,?_,fr,jb⟩
        refine hU.push (aod a) hx (λb _ hb=>hf5.old b hb) uU jb jb jb (cells:=[lv]) rfl ?_ λb h1 h2 _=>?_
        .rw[ak _ _ _ _ jb,aA]
        .rw[ak _ _ _ _ jb,ak _ _ _ _ jb,ak _ _ _ _ jb]
       .have k1':=hf5.get hf4.wf k1
        have hrl:=sW (n:=t) (G:=λj=>[U j]) (e:=1) λ_=>rfl
        have hrt:=jC (n:=t) (G:=λj=>[U j]) (e:=1) λ_=>rfl
        simp(disch:=try exact jz) only[go_sem,t2,t3,t8,t37,t38,t39,t44,t45,t46,t11,au q8',q8',hlk,k1']
        refine⟨a.length-(t+1),jb,t+1,_,aN U t lv,rfl,jb,rfl,rfl,?_,fr,jb⟩
        refine hU.push (aod a) hx (λb _ hb=>hf5.old b hb) uU jb jb jb rfl ?_ λb h1 h2 h3=>?_
        .rw[ak _ _ _ _ jb,aA,hrt]
        .have h3:=h3 _ _ _ rfl
         rw[ak _ _ _ _ jb,ak _ _ _ _ jb,eX _ _ _ jb,ak _ _ _ _ jb]
     .have:t=a.length:=jb
      subst this
      simp(disch:=try exact jz) only[go_sem,am]
      exact⟨tv,U,t2,t3,t8,t37,t38,t39,q8,hU,hf4,hn4⟩
    .rintro _ tm σ4 ⟨rfl,tv,U,t2,t3,t8,t37,t38,t39,q8,hU,hf4,hn4⟩
     have pY:=hf4.le
     have htk:=hU.kn
     have q3':=hf4.get hf.wf q3
     have hak:=hN.kn
     have hx:RAi e.a tv (λb=>σ'.aj<=b/\b<σ4.aj) σ4.h k:=by rw[hRA];exact hU.ac0.keep (λ_ _=>rfl) λb hb=>⟨jb,hb.2⟩
     have aBa:=hf.trans hf4
     rcases hN.cases with⟨rfl,rfl⟩|⟨hk0,b6,rfl,k1,k2,k3⟩
     .simp(disch:=try exact jz) only[go_sem,t2,t3,t8,t37,t38,t39,au q8,htk,au q3',q3']
      refine⟨e.a.length-1,jb,1,_,aN T 0 tv,rfl,jb,rfl,rfl,?_,?_,fr,jb⟩
      .exact hO.mono (λb h1 h2=>by rw[ak _ _ _ _ jb,ak _ _ _ _ jb,ak _ _ _ _ jb,hf4.old b jb]) jp jp
      .refine hN.push (aoe e.a) hx (λb _ hb=>hf4.old b hb) pY jb jb hn2 (cells:=[tv]) rfl ?_ λb h1 h2 _=>?_
       .rw[ak _ _ _ _ jb,aA]
       .rw[ak _ _ _ _ jb,ak _ _ _ _ jb,ak _ _ _ _ jb]
     .have k1':=hf4.get hf.wf k1
      have hrl:=sW (n:=k) (G:=λj=>[T j]) (e:=1) λ_=>rfl
      have hrt:=jC (n:=k) (G:=λj=>[T j]) (e:=1) λ_=>rfl
      simp(disch:=try exact jz) only[go_sem,t2,t3,t8,t37,t38,t39,au q8,htk,au q3',q3',k1']
      refine⟨e.a.length-(k+1),jb,k+1,_,aN T k tv,rfl,jb,rfl,rfl,?_,?_,fr,jb⟩
      .exact hO.mono (λb h1 h2=>by rw[ak _ _ _ _ jb,ak _ _ _ _ jb,eX _ _ _ jb,ak _ _ _ _ jb,hf4.old b jb]) jp jp
      .refine hN.push (aoe e.a) hx (λb _ hb=>hf4.old b hb) pY jb jb hn2 rfl ?_ λb h1 h2 h3=>?_
       .rw[ak _ _ _ _ jb,aA,hrt]
       .have h3:=h3 _ _ _ rfl
        rw[ak _ _ _ _ jb,ak _ _ _ _ jb,eX _ _ _ jb,ak _ _ _ _ jb]
   .have:k=e.a.length:=jb
    subst this
    simp(disch:=try exact jz) only[go_sem,am]
    exact⟨av,T,t2,t3,q3,hO,hN,hf,hn2⟩
  .rintro _ tm σ3 ⟨rfl,av,T,t2,t3,q3,hO3,hN,hf,hn2⟩
   have hle3:=hf.le
   have hF3:=hF.trans hf
   have hak:=hN.kn
   have q1:=hf.get hF.wf q1
   simp(disch:=try exact jz) only[go_sem,t2,t3,au q3,hok,hak,aI q1]
   refine⟨⟨_,_,rfl,?_,?_⟩,fr⟩
   .exact(hO3.claims (p:=λb=>σ1.aj+1<=b/\b<σ2.aj) λb h1 h2=>⟨h1,h2⟩).keep (λb hb=>ak _ _ _ _ jb) λb hb=>⟨jb,by show b<σ3.aj;omega⟩
   .exact hN.azE.keep (λb hb=>ak _ _ _ _ jb) λb hb=>⟨jb,hb.2⟩
end
def afT(G:Nat->List B)(n:Nat):iR G n (G n)=G:=by
 funext i;unfold iR;split
 .next e=>rw[e]
 .rfl
def Yy(n:Nat)(G:Nat->List B):bC (n+1) G=bC n G++G n:=by rw[jw,afT]
def aog{h:Tr Bk}{b o e:Nat}{l:List B}(hl:ld h b o e true=some (.agg l)):∃k,h b=some k/\k.rd=true/\(k.cells.drop o).take e=l/\l.length=e/\l.all B.kn=true:=by
 unfold ld at hl;cases hk:h b with
 |none=>rw[hk]at hl;cases hl
 |some k=>
  rw[hk]at hl
  dsimp only at hl
  cases hr:k.rd with
  |false=>rw[hr]at hl;cases hl
  |true=>
   rw[hr]at hl
   simp only[ck]at hl
   unfold zW at hl
   dsimp only at hl
   cases hx:(Nat.beq ((k.cells.drop o).take e).length e&&((k.cells.drop o).take e).all B.kn)with
   |false=>rw[hx]at hl;cases hl
   |true=>
    rw[hx]at hl
    cases hl
    rw[af]at hx
    exact⟨k,rfl,hr,rfl,aw hx.1,hx.2⟩
def Yz{h:Tr Bk}{b o e:Nat}{G:Nat->List B}:∀{n:Nat},0<n->(∀i,i<n->ld h b (o+i*e) e true=some (.agg (G i)))->∃k,h b=some k/\k.rd=true/\(k.cells.drop o).take (n*e)=bC n G/\(bC n G).length=n*e/\(bC n G).all B.kn=true
 |0,h0,_=>jb
 |n+1,_,hl=>by
  obtain⟨k,h1,h2,h3,h4,h5⟩:=aog (hl n jb);by_cases hn:n=0
  .subst hn;rw[im,cB]at h3;rw[Yy];refine⟨k,h1,h2,?_,?_,?_⟩
   .rw[cL,Nat.one_mul,h3];rfl
   .show([]++G 0).length=_;simp[h4]
   .show([]++G 0).all B.kn=_;simpa using h5
  .obtain⟨k',h1',-,h3',h4',h5'⟩:=Yz (n:=n) jb λi hi=>hl i jb;rw[h1]at h1';cases h1';rw[Yy];refine⟨k,h1,h2,?_,?_,?_⟩
   .rw[cj,List.take_add,h3',jt,h3]
   .rw[aD,h4',h4,cj]
   .rw[List.all_append,h5',h5];rfl
def aoh{p:Nat->Prop}{σ:St}{e n:Nat}{v:B}{G:Nat->List B}(hl:aX p σ.h e v n G)(ty bytes:Nat)(s:V):afm ty e bytes s (.c v) σ=uj ty e bytes s n (bC n G) σ:=by
 rcases hl with⟨rfl,rfl⟩|⟨b,o,c,rfl,-,hld⟩
 .rfl
 .by_cases hn:n=0
  .subst hn;rfl
  .obtain⟨k,h1,h2,h3,h4,h5⟩:=Yz jb hld;rw[acS _ _ _ _ _ _ _ _ _ jb,h1];dsimp only;rw[h2,h3,h4,h5,XY];rfl
def YB{σ:St}(hW:WF σ){p:Nat->Prop}{v:B}(l:List Ins.Lg)(hL:AU p σ.h v l)(hl:l.length<=1000):
  aC EN 172 [.c v] σ λr σ'=>(∃v',r=.c v'/\AU (λb=>σ.aj<=b/\b<σ'.aj) σ'.h v' l)/\Fr σ σ':=by
 refine aO (iL.o _ _) iL.h ?_
 unfold iL
 dsimp only
 have hF:Fr σ ⟨hset σ.h σ.aj ⟨[],none⟩,σ.aj+1⟩:=fr
 have hap:=λs=>aoh (σ:=⟨hset σ.h σ.aj ⟨[],none⟩,σ.aj+1⟩) (aX.fr hW hF hL) 135 16 s
 rcases hL with⟨h0,rfl⟩|⟨b,o,c,rfl,h1,h2⟩
 .simp(disch:=try exact jz) only[go_sem]
  exact⟨⟨_,rfl,.inl ⟨h0,rfl⟩⟩,Fr.refl hW⟩
 .by_cases h0:l.length=0
  .rw[h0]at hap
   simp(disch:=try exact jz) only[go_sem,hap,h0]
   refine⟨⟨_,rfl,.inr ⟨σ.aj,0,.ex 0,?_,λh=>jb,λi hi=>jb⟩⟩,hF⟩
   rw[h0]
  .simp(disch:=try exact jz) only[go_sem,hap]
   refine⟨⟨_,rfl,?_⟩,fr⟩
   exact bD _ (aA _ _ _) (by rw[CQ _ _ jb]) ⟨jb,bR _⟩ (λ_=>rfl) jj λ_ _=>rfl
end Go.Proofs.Xe
