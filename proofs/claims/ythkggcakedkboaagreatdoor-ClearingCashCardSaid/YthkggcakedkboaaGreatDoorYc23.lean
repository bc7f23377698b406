import Derived.Test.YthkggcakedkboaaGreatDoorYc22
set_option linter.all false
namespace Go.Proofs.Xe
open Go.RowKit Go.Proofs.Ins
def abV{E:Env}{a b:AC}{tm:Tr V}{σ:St}{Q:AX->Tr V->St->Prop}(M:Tr V->St->Prop)(h1:bJ E a tm σ λe tm σ=>e=.normal/\M tm σ)(h2:∀tm' σ',M tm' σ'->bJ E b tm' σ' Q):bJ E (.seq a b) tm σ Q:=
 run_seq (h1.mono λe tm σ' ⟨he,hm⟩=>by subst he;exact h2 _ _ hm)
structure JU{α:Type}[Inhabited α](h:Tr Bk)(n:Nat)(c:α->List B)(e ty:Nat)(L:Nat->List α)(bs:Nat->Nat)(lo hi:Nat):Prop where
 blk:∀i,i<n->0<(L i).length->h (bs i)=some ⟨bD (L i).length (λk=>c (ix (L i) k)),some (e,ty)⟩/\lo<=bs i/\bs i<hi
 inj:∀i j,i<n->j<n->0<(L i).length->0<(L j).length->bs i=bs j->i=j
section
variable {α:Type} [Inhabited α] {h h' : Tr Bk} {n e ty lo hi:Nat} {c:α→List B} {L:Nat→List α} {bs:Nat→Nat}
theorem JU.nil(h:Tr Bk)(n:Nat)(c:α->List B)(e ty:Nat)(bs:Nat->Nat)(lo hi:Nat):JU h n c e ty (λ_=>[]) bs lo hi:=⟨λi _ h=>by simp at h,λi j _ _ h=>by simp at h⟩
def JU.mono(hf:JU h n c e ty L bs lo hi)(hh:∀b,lo<=b->b<hi->h' b=h b){hi':Nat}(h2:hi<=hi'):JU h' n c e ty L bs lo hi':=
 ⟨λi hi hp=>by obtain⟨k1,k2,k3⟩:=hf.blk i hi hp;exact⟨by rw[hh _ k2 k3];exact k1,k2,jb⟩,hf.inj⟩
theorem gI(l:List α)(x:α){k:Nat}(h:k<l.length):ix (l++[x]) k=ix l k:=by rw[Qp,ab h]
theorem gJ(l:List α)(x:α):ix (l++[x]) l.length=x:=by rw[Qp,ae jb,ab rfl]
def JU.push(hf:JU h n c e ty L bs lo hi){i nx:Nat}(hi':i<n)(x:α){cells:List B}(hc:cells=bD (L i).length (λk=>c (ix (L i) k))++c x)(h1:h' nx=some ⟨cells,some (e,ty)⟩)
  (hh:∀j,j<n->j≠i->0<(L j).length->h' (bs j)=h (bs j)) (hlo:lo<=nx) (hnx:hi<=nx){hi2:Nat}(h2:nx<hi2):JU h' n c e ty (aK L i (L i++[x])) (aK bs i nx) lo hi2:=by
 refine⟨λj hj hp=>?_,λa b ha hb pa pb e=>?_⟩
 .by_cases e:j=i
  .subst e
   rw[aN,aN,aD,bR]
   refine⟨?_,hlo,h2⟩
   rw[h1,hc,lV]
   congr 2
   refine bP λk hk=>?_
   unfold iZ
   split
   .next e=>rw[e,gJ]
   .rw[gI _ _ jb]
  .rw[aP _ _ _ _ e]at hp⊢
   rw[aP _ _ _ _ e]
   obtain⟨k1,k2,k3⟩:=hf.blk j hj hp
   exact⟨by rw[hh j hj e hp];exact k1,k2,jb⟩
 .by_cases e1:a=i
  .by_cases e2:b=i
   .rw[e1,e2]
   .rw[e1,aN,aP _ _ _ _ e2]at e
    rw[aP _ _ _ _ e2]at pb
    have:=(hf.blk b hb pb).2.2
    omega
  .by_cases e2:b=i
   .rw[e2,aN,aP _ _ _ _ e1]at e
    rw[aP _ _ _ _ e1]at pa
    have:=(hf.blk a ha pa).2.2
    omega
   .rw[aP _ _ _ _ e1]at pa
    rw[aP _ _ _ _ e2]at pb
    rw[aP _ _ _ _ e1,aP _ _ _ _ e2]at e
    exact hf.inj a b ha hb pa pb e
def JU.hlp(hf:JU h n c e ty L bs lo hi){p:Nat->Prop}(hp:∀b,lo<=b->b<hi->p b)(hc:∀x,(c x).length=e)(he:0<e)(hk:∀x,(c x).all B.kn=true){i:Nat}(hi':i<n):aZ p h e (kN (L i) (bs i)) (L i).length λk=>c (ix (L i) k):=by
 by_cases h0:(L i).length=0
 .exact .inl ⟨h0,by unfold kN;rw[ab h0]⟩
 .obtain⟨k1,k2,k3⟩:=hf.blk i hi' jb;rw[iT jb];exact bf _ k1 (by rw[BU _ _ jb]) (hp _ k2 k3) (λ_=>hc _) he λ_ _=>hk _
end
def je.lt{σ:St}(hW:WF σ){p:Nat->Prop}{v:B}{l:List gB}(hl:je p σ.h v l):je (Lt σ.aj) σ.h v l:=by obtain⟨T,k1,k2⟩:=hl;refine⟨T,k1.lt hW,λj hj=>?_⟩;obtain⟨U,m1,m2⟩:=k2 j hj;exact⟨U,m1.lt hW,λl hl=>(m2 l hl).lt hW⟩
theorem je.fr{σ σ':St}(hW:WF σ)(hf:Fr σ σ'){p:Nat->Prop}{v:B}{l:List gB}(hl:je p σ.h v l):je (Lt σ.aj) σ'.h v l:=(hl.lt hW).keep hf.lt λ_ h=>h
def Xd(al:List gB)(c:Int):Prop:=∀j,j<al.length->∀t,t<(ix al j).length->∀p,p<(ix (ix al j) t).length->(ix (ix (ix al j) t) p).k≠c
def aq3(al:List gB):Prop:=al.length<=1000/\∀j,j<al.length->(ix al j).length<=1000/\∀t,t<(ix al j).length->(ix (ix al j) t).length<=1000
def QK(Q:(Nat->Prop)->Tr Bk->Nat->Prop)(j:Nat):Prop:=∀(p q:Nat->Prop) (h h':Tr Bk),Q p h j->(∀b,p b->h' b=h b)->(∀b,p b->q b)->Q q h' j
section
variable {Q:(Nat→Prop)→Tr Bk→Nat→Prop} {h h' : Tr Bk} {v:B} {n:Nat} {G G' : Nat→List B} {e ty lo hi:Nat}
end
section
variable {R:B→(Nat→Prop)→Tr Bk→Nat→Prop} {U:Nat→B} {h h' h1:Tr Bk} {v x:B} {n ty lo hi hi1 nx n' : Nat}
end
def qO{r:R3}{k:Nat}(h:r.fits k)(hk:k<=50000000):r.s.size+r.d.size<=130000000:=by have:=h.1;have:=h.2;omega
def dV.kn{p:Nat->Prop}{h:Tr Bk}{v:B}{l:gB}(hl:dV p h v l):v.kn=true:=hl.choose_spec.1.kn
def je.at{p:Nat->Prop}{h:Tr Bk}{v:B}{l:List gB}(hl:je p h v l){j:Nat}(hj:j<l.length):∃b o c,v=.sl b o l.length c/\∃T:B,ld h b (o+j*1) 1 true=some (.agg [T])/\dV p h T (ix l j):=by obtain⟨T,h1,h2⟩:=hl;obtain⟨b,o,c,e,-,hld⟩:=h1.pos jb;grind
def dV.at{p:Nat->Prop}{h:Tr Bk}{v:B}{l:gB}(hl:dV p h v l){j:Nat}(hj:j<l.length):∃b o c,v=.sl b o l.length c/\∃T:B,ld h b (o+j*1) 1 false=some (.c T)/\Cc p h T (ix l j):=by obtain⟨T,h1,h2⟩:=hl;obtain⟨b,o,c,e,-,hld⟩:=h1.pos jb;exact⟨b,o,c,e,T j,(uO (hld j hj)).1,h2 j hj⟩
def je.len{p:Nat->Prop}{h:Tr Bk}{v:B}{l:List gB}(hl:je p h v l):lenV (.c v)=some (.c (.int .i64 (.ofNat l.length))):=hl.choose_spec.1.len
def dV.len{p:Nat->Prop}{h:Tr Bk}{v:B}{l:gB}(hl:dV p h v l):lenV (.c v)=some (.c (.int .i64 (.ofNat l.length))):=hl.choose_spec.1.len
theorem dV.fr{σ σ':St}(hW:WF σ)(hf:Fr σ σ'){p:Nat->Prop}{v:B}{l:gB}(hl:dV p σ.h v l):dV (Lt σ.aj) σ'.h v l:=by obtain⟨T,h1,h2⟩:=hl;exact⟨T,h1.fr hW hf,λi hi=>(h2 i hi).fr hW hf⟩
structure NF(Q:(Nat->Prop)->Tr Bk->Nat->Prop)(h:Tr Bk)(b n:Nat)(G:Nat->List B)(e ty lo hi:Nat):Prop where
 g:xG n h b=gF n G e ty
 L:LG G e
 l1:lo<=b
 l2:n=0\/b<hi
 q:∀j,j<n->Q (λx=>lo<=x/\x<b) h j
def NoQ(_:Nat->Prop)(_:Tr Bk)(_:Nat):Prop:=True
def JH(j:Nat):QK NoQ j:=λ_ _ _ _ h _ _=>h
section
variable {Q Q' : (Nat→Prop)→Tr Bk→Nat→Prop} {h h' : Tr Bk} {b n:Nat} {G G' : Nat→List B} {e ty lo hi:Nat}
theorem NF.nil(hL:LG G e):NF Q h lo 0 G e ty lo hi:=⟨rfl,hL,jp,.inl rfl,λ_ h=>jb⟩
def NF.own(ho:NF Q h b n G e ty lo hi):zi h (aU n b) n G e ty lo hi:=by
 obtain⟨g,L,h1,h2,-⟩:=ho;cases n with
 |zero=>exact .inl ⟨rfl,rfl⟩
 |succ n=>exact .inr ⟨jb,b,rfl,g,h1,jb⟩
def NF.hlp(ho:NF Q h b n G e ty lo hi)(he:0<e)(hk:∀j,j<n->(G j).all B.kn=true){p:Nat->Prop}(hp:∀b,lo<=b->b<hi->p b):aZ p h e (aU n b) n G:=zi.hlp ho.own ho.L he hk hp
def NF.mono(ho:NF Q h b n G e ty lo hi)(hQ:∀j,j<n->QK Q j)(hh:∀b,lo<=b->b<hi->h' b=h b){hi':Nat}(h2:hi<=hi'):NF Q h' b n G e ty lo hi':=by have h3:=ho.l1;have h4:=ho.l2;refine⟨?_,ho.L,ho.l1,jb,λj hj=>hQ j hj _ _ _ _ (ho.q j hj) (λx hx=>hh x hx.1 jb) λx hx=>hx⟩;rw[vG,ho.g];grind
def NF.el(ho:NF Q h b n G e ty lo hi)(hQ:∀j,j<n->QK Q j){j:Nat}(hj:j<n):Q (λx=>lo<=x/\x<hi) h j:=by have h4:=ho.l2;exact hQ j hj _ _ _ _ (ho.q j hj) (λ_ _=>rfl) λx hx=>⟨hx.1,jb⟩
def NF.push(ho:NF Q h b n G e ty lo hi)(hQ:∀j,j<=n->QK Q' j)(hQQ:∀j,j<n->∀p h,Q p h j->Q' p h j){hi1 nx n':Nat}{h1:Tr Bk}(hx:Q' (λb=>hi<=b/\b<hi1) h1 n)(hh:∀b,lo<=b->b<hi->h1 b=h b)(h2:hi<=hi1)(h3:hi1<=nx)(h4:nx<n')(h5:lo<=hi)
  {x:List B}(hb:h' nx=some ⟨bD n G++x,some (e,ty)⟩) (hgn:x=G' n) (hk:∀c,lo<=c->c<hi1->n=0\/c≠b->h' c=h1 c) (hg:∀i,i<n->G' i=G i) (hL:LG G' e):NF Q' h' nx (n+1) G' e ty lo n':=by
 obtain⟨g,-,l1,l2,q⟩:=ho
 refine⟨?_,hL,jb,jb,λj hj=>?_⟩
 .show h' nx=some _
  grind[Go.Proofs.Xe.lV,Go.Proofs.Xe.bP,Go.Proofs.Xe.iZ]
 .by_cases e:j=n
  .subst e
   exact hQ j jb _ _ _ _ hx (λx hx=>hk x jb hx.2 jb) λx hx=>⟨jb,jb⟩
  .exact hQ j jb _ _ _ _ (hQQ j jb _ _ (q j jb)) (λx hx=>by grind) λx hx=>⟨hx.1,jb⟩
end
def yg(p:Nat->Prop)(h:Tr Bk)(v:B)(l:gu):Prop:=
 ∃G:Nat->B,aZ p h 4 v l.length (λi=>jI (G i) (aV (ix l i)))/\alr v/\∀i,i<l.length->aZ p h 4 (G i) (ix l i).length λj=>y8 (ix (ix l i) j)
def ZO(p:Nat->Prop)(h:Tr Bk)(v:B)(ms:List Nat):Prop:=aZ p h 1 v ms.length λi=>[Pn ms i]
structure yh(p:Nat->Prop)(h:Tr Bk)(rv pv:B)(e:eH):Prop where
 rk:yg p h rv e.rk
 ps:∃Gm Gl:Nat->B,aZ p h 2 pv e.ps.length (λi=>[Gm i,Gl i])/\∀i,i<e.ps.length->ZO p h (Gm i) (ix e.ps i).1/\yg p h (Gl i) (ix e.ps i).2
section
variable {p q:Nat→Prop} {h h' : Tr Bk} {v rv pv:B} {l:gu} {ms:List Nat} {e:eH}
def yg.lad(hl:yg p h v l):Hu h v l:=by obtain⟨G,h1,h2,h3⟩:=hl;exact⟨G,h1.hl,h2,λi hi=>(h3 i hi).hl⟩
def yg.keep(hl:yg p h v l)(hk:∀b,p b->h' b=h b)(hp:∀b,p b->q b):yg q h' v l:=by obtain⟨G,h1,h2,h3⟩:=hl;exact⟨G,h1.keep hk hp,h2,λi hi=>(h3 i hi).keep hk hp⟩
def yg.kn(hl:yg p h v l):v.kn=true:=hl.choose_spec.1.kn
def ZO.hc(hl:ZO p h v ms):HC h v ms.length (Pn ms):=by
 by_cases h0:0<ms.length
 .obtain⟨b,o,c,e,hld⟩:=HL.one (aZ.hl hl) h0;exact .inr ⟨b,o,c,e,hld⟩
 .rcases aZ.hl hl with h1|⟨b,o,c,e,-⟩
  .exact .inl h1
  .exact .inr ⟨b,o,c,e,λi hi=>jb⟩
def yh.lay(hl:yh p h rv pv e):Jd h rv pv e:=by obtain⟨h1,Gm,Gl,h2,h3⟩:=hl;exact⟨h1.lad,Gm,Gl,h2.hl,λi hi=>⟨(h3 i hi).1.hc,(h3 i hi).2.lad⟩⟩
def yh.keep(hl:yh p h rv pv e)(hk:∀b,p b->h' b=h b)(hp:∀b,p b->q b):yh q h' rv pv e:=by obtain⟨h1,Gm,Gl,h2,h3⟩:=hl;exact⟨h1.keep hk hp,Gm,Gl,h2.keep hk hp,λi hi=>⟨aZ.keep (h3 i hi).1 hk hp,(h3 i hi).2.keep hk hp⟩⟩
def yh.Vd(hl:yh p h rv pv e):pv.kn=true:=by obtain⟨-,Gm,Gl,h2,-⟩:=hl;exact h2.kn
end
def N7(h:Tr Bk)(bs:Nat)(t:dP):Prop:=xG t.length h bs=gF t.length (λj=>y8 (ix t j)) 4 203
def N7.hlp{p:Nat->Prop}{h:Tr Bk}{bs:Nat}{t:dP}(ho:N7 h bs t)(hp:t.length=0\/p bs):aZ p h 4 (aU t.length bs) t.length λj=>y8 (ix t j):=by
 unfold N7 at ho;generalize t.length=n at*;cases n with
 |zero=>exact .inl ⟨rfl,rfl⟩
 |succ n=>exact bf _ ho rfl (hp.resolve_left jb) (λ_=>rfl) jj λ_ _=>rfl
def QF(t:dP)(p:Int×Rat):aV (t++[p])=aV t+p.2:=by
 induction t with
 |nil=>show p.2+0=0+p.2;grind
 |cons q t ih=>grind[aV]
structure kT(h:Tr Bk)(n:Nat)(k:Nat->Nat)(C:Nat->Nat->List B)(bs:Nat->Nat)(lo hi:Nat):Prop where
 r:∀i,i<n->h (bs i)=some ⟨bD (k i) (C i),none⟩/\lo<=bs i/\bs i<hi
 inj:∀i j,i<n->j<n->bs i=bs j->i=j
def xI(k bs:Nat->Nat)(i:Nat):B:=.sl (bs i) 0 (k i) (.ex (k i))
section
variable {h h' : Tr Bk} {n lo hi:Nat} {k bs:Nat→Nat} {C:Nat→Nat→List B}
theorem kT.nil(h:Tr Bk)(k:Nat->Nat)(C:Nat->Nat->List B)(bs:Nat->Nat)(lo hi:Nat):kT h 0 k C bs lo hi:=⟨λi hi=>jb,λi j hi=>jb⟩
def kT.mono(ho:kT h n k C bs lo hi)(hh:∀b,lo<=b->b<hi->h' b=h b){lo' hi':Nat}(h1:lo'<=lo)(h2:hi<=hi'):kT h' n k C bs lo' hi':=
 ⟨λi hi=>by obtain⟨k1,k2,k3⟩:=ho.r i hi;grind,ho.inj⟩
def kT.mono'(ho:kT h n k C bs lo hi)(hh:∀i,i<n->h' (bs i)=h (bs i)){lo' hi':Nat}(h1:lo'<=lo)(h2:hi<=hi'):kT h' n k C bs lo' hi':=
 ⟨λi hi=>by obtain⟨k1,k2,k3⟩:=ho.r i hi;grind,ho.inj⟩
def kT.congr{C':Nat->Nat->List B}(ho:kT h n k C bs lo hi)(hc:∀i,i<n->∀c,c<k i->C i c=C' i c):kT h n k C' bs lo hi:=
 ⟨λi hi=>by obtain⟨k1,k2,k3⟩:=ho.r i hi;grind[bP],ho.inj⟩
def kT.push(ho:kT h n k C bs lo hi){nb:Nat}{c:List B}(hb:h' nb=some ⟨c,none⟩)(hc:c=bD (k n) (C n))(hn:hi<=nb){hi':Nat}(h2:nb<hi')(hl:lo<=nb)(hh:∀b,lo<=b->b<hi->(∃i,i<n/\b=bs i)->h' b=h b):kT h' (n+1) k C (aK bs n nb) lo hi':=by
 refine⟨λi hi1=>?_,λi j hi1 hj e=>?_⟩
 .by_cases e:i=n
  .grind[aN]
  .obtain⟨k1,k2,k3⟩:=ho.r i jb;grind[aP]
 .by_cases e1:i=n<;>by_cases e2:j=n
  .omega
  .exfalso;rw[e1,aN,aP _ _ _ _ e2]at e;have:=(ho.r j jb).2.2;omega
  .exfalso;rw[e2,aN,aP _ _ _ _ e1]at e;have:=(ho.r i jb).2.2;omega
  .rw[aP _ _ _ _ e1,aP _ _ _ _ e2]at e;exact ho.inj i j jb jb e
def qP(C:Nat->Nat->List B)(i c:Nat)(x:List B):Nat->Nat->List B:=λi' c'=>if i'=i/\c'=c then x else C i' c'
def kT.set(ho:kT h n k C bs lo hi){i c:Nat}{x l:List B}(hi1:i<n)(hl:l=bD (k i) (iZ (C i) c x)):kT (hset h (bs i) ⟨l,none⟩) n k (qP C i c x) bs lo hi:=by
 refine⟨λj hj=>?_,ho.inj⟩;obtain⟨k1,k2,k3⟩:=ho.r j hj;by_cases e:j=i
 .grind[Go.Proofs.Xe.aA,Go.Proofs.Xe.bP,Go.Proofs.Xe.iZ,Go.Proofs.Xe.qP]
 .rw[au _ _ _ _ (λe2=>e (ho.inj j i hj hi1 e2)),k1];grind[Go.Proofs.Xe.bP,Go.Proofs.Xe.qP]
def kT.hlp(ho:kT h n k C bs lo hi){p:Nat->Prop}{e:Nat}(hp:∀b,lo<=b->b<hi->p b)(he:0<e)(hC:∀i c,(C i c).length=e)(hk:∀i c,i<n->c<k i->(C i c).all B.kn=true){i:Nat}(hi1:i<n):aZ p h e (xI k bs i) (k i) (C i):=by obtain⟨k1,k2,k3⟩:=ho.r i hi1;exact bf _ k1 rfl (hp _ k2 k3) (hC i) he λc hc=>hk i c hi1 hc
end
def aef(G:Nat->List B)(i:Nat)(a b:List B):iZ (iZ G i a) i b=iZ G i b:=by grind[iZ]
def Xf{G:Nat->List B}{e i:Nat}{x:List B}(hG:∀j,(G j).length=e)(hx:x.length=e)(j:Nat):(iZ G i x j).length=e:=by grind[iZ]
def abW(G:Nat->List B)(i:Nat)(x:List B):iZ G i x i=x:=ab rfl
def amn(t:dP):LG (λj=>y8 (ix t j)) 4:=λ_=>rfl
set_option maxRecDepth 10000 in
def ahN{σ:St}(hW:WF σ){b n r:Nat}{G:Nat->List B}{o:Option (Nat×Nat)}(hb:σ.h b=some ⟨bD n G,o⟩)(hr:r<n)(hG:∀j,(G j).length=4)(hpl:plo o=true)(hrd:Yk o=true){t:dP}{bs:Nat}(hGr:G r=jI (aU t.length bs) (aV t))(hT:N7 σ.h bs t)(hne:t.length=0\/bs≠b)(hbs:t.length=0\/bs<σ.aj)(hl:t.length<=1000000)(k:Int)(q:Rat)(hs:Sz (aV t))(hq:Sz q):
  aC EN 93 [.c (.ptr b (r*4)),.c (.int .i64 k),.agg [.bool (rn q),.str (rs q),.str (rd q)]] σ λ_ σ'=>∃nx,σ.aj<=nx/\nx<σ'.aj/\σ'.h b=some ⟨bD n (iZ G r (jI (.sl nx 0 (t.length+1) .opn) (aV t+q))),o⟩/\σ'.h nx=some ⟨bD t.length (λj=>y8 (ix t j))++y8 (k,q),some (4,203)⟩/\aT [b,bs] σ σ':=by
 refine aQ (nC.o _ _) nC.h ?_
 unfold nC
 dsimp only
 have hbl:=hW.lt hb
 have hFr:=Fr.refl hW
 have l0:ld σ.h b (r*4) 1 false=some (.c (aU t.length bs)):=by have:=yC (k:=0) (m:=1) false hG hr jj jj;rw[cA,hGr]at this;rw[ak hb,Nc];dsimp only;rw[hrd,cn,this];unfold jI yO;simp[Ku]
 have w0:∀x:B,xC (bD n G) (r*4) [x]=some (bD n (iZ G r (jI x (aV t)))):=λx=>by have:=yD (k:=0) (vs:=[x]) hG hr kc;rw[cA]at this;rw[this,hGr];rfl
 have r1:∀x:B,yO (bD n (iZ G r (jI x (aV t)))) (r*4+1) 3 true=some (.agg [.bool (rn (aV t)),.str (rs (aV t)),.str (rd (aV t))]):=λx=>by have:=yC (k:=1) (m:=3) (G:=iZ G r (jI x (aV t))) true (Xf hG rfl) hr jj jj;rw[this,abW];rfl
 have w1:∀x a c d:B,xC (bD n (iZ G r (jI x (aV t)))) (r*4+1) [a,c,d]=some (bD n (iZ G r [x,a,c,d])):=λx a c d=>by have:=yD (k:=1) (vs:=[a,c,d]) (G:=iZ G r (jI x (aV t))) (Xf hG rfl) hr kc;rw[this,abW,<-aef G r (jI x (aV t)) [x,a,c,d]];rfl
 have hLG:=amn t
 unfold N7 at hT
 simp(disch:=try exact jz) only[go_sem,z3,l0,aI hb,w0,r1,w1,hpl,hrd,hb,hT]
 refine⟨σ.aj+1+1,jb,jb,?_,?_,?_⟩
 .rfl
 .rw[au _ _ _ _ jb,au _ _ _ _ jb,aA];rfl
 .repeat(first|assumption|exact aT.refl (by assumption)|exact aT.up (by assumption) kf|exact aT.up (aT.refl (by assumption)) kf|refine aT.set1 ?_ kg kf|refine aT.kC ?_ kg|refine aT.ni ?_ kg|refine aT.nU ?_ kf)
end Go.Proofs.Xe
namespace Go.Proofs.Ins
structure GL where
 e:Nat->eH
 k:Nat->Nat
 h:Nat->Nat->Int
 ds:List (Rat×List fJ)
def GL.fA(g:GL):List fJ:=g.ds.flatMap (·.2)
def gq(g:GL)(x:Nat->Rat)(l:fJ):Rat:=sK (g.e l.1) (x l.1) l.2
def gs(g:GL)(x:Nat->Rat)(i:Nat)(l:fJ):Rat:=if l.1=i then wY (g.e l.1) (x l.1) l.2 else 0
def Po(g:GL)(d:Rat×List fJ):Int:=match d.2 with|[]=>-1|l::_=>g.h l.1 l.2
def dG(g:GL)(x:Nat->Rat)(j:Nat)(d:Rat×List fJ):Rat:=(if Po g d=(j:Int)then jV d.1 (aJ d.2 (gq g x))else 0)+pO d.1 (gq g x) 0 d.2 j
def dM(g:GL)(x:Nat->Rat)(j i:Nat)(d:Rat×List fJ):Rat:=
 (if Po g d=(j:Int)then aJ d.2 (gs g x i)-nN d.1 (aJ d.2 (gq g x)) (aJ d.2 (gs g x i))else 0)+jd d.1 (gq g x) (gs g x i) 0 0 0 d.2 j
def vK(g:GL)(j i c:Nat):Bool:=!(g.fA.contains (i,c))&&g.h i c==(j:Int)
def gG(n:Nat)(g:GL)(x:Nat->Rat)(j:Nat):Rat:=aB n (λi=>aB (g.k i) λc=>if vK g j i c then gq g x (i,c)else 0)+aJ g.ds (dG g x j)
def gM(n:Nat)(g:GL)(x:Nat->Rat)(j i:Nat):Rat:=aB (g.k i) (λc=>if vK g j i c then gs g x i (i,c)else 0)+aJ g.ds (dM g x j i)
structure JV(n:Nat)(g:GL):Prop where
 nn:∀i,i<n->Bc (g.e i)
 inn:∀i,i<n->InE (g.k i) (g.e i)
 hold:∀i c,i<n->c<g.k i->g.h i c=-1\/0<=g.h i c/\g.h i c<n
 fA:∀l∈g.fA,l.1<n/\l.2<g.k l.1
 nodup:g.fA.Nodup
 pos:∀d∈g.ds,0<=d.1
section
variable {n:Nat} {g:GL}
def aeg(hg:JV n g){d:Rat×List fJ}(hd:d∈g.ds):Po g d=-1\/0<=Po g d/\Po g d<n:=by
 unfold Po;split
 .omega
 .next l t e=>
  have h1:=hg.fA l (by grind[GL.fA]);exact hg.hold _ _ h1.1 h1.2
def sN(hg:JV n g){d:Rat×List fJ}(hd:d∈g.ds){l:fJ}(hl:l∈d.2):l.1<n:=
 (hg.fA l (cD.mpr ⟨d,hd,hl⟩)).1
def aq4(hg:JV n g){d:Rat×List fJ}(hd:d∈g.ds)(v:Rat):aB n (λj=>if Po g d=(j:Int)then v else 0)=if Po g d=-1 then 0 else v:=by
 rcases aeg hg hd with h|⟨h1,h2⟩
 .grind[bI]
 .rw[ae jb,jk (k:=(Po g d).toNat) jb λj _ hne=>ae jb,ab jb]
def amo(hg:JV n g){i c:Nat}(hi:i<n)(hc:c<g.k i)(v:Rat):aB n (λj=>if vK g j i c then v else 0)=if(i,c)∈g.fA\/g.h i c=-1 then 0 else v:=by
 by_cases hl:(i,c)∈g.fA
 .grind[bI,vK]
 .rcases hg.hold i c hi hc with h|⟨h1,h2⟩
  .grind[bI,vK]
  .rw[ae kd,jk (k:=(g.h i c).toNat) jb λj _ hne=>?_,ab ?_]
   .grind[vK]
   grind[vK]
theorem QG(hg:JV n g){x:Nat->Rat}(hx:Nn n x){l:fJ}(hl:l.1<n):0<=gq g x l:=Ja (hg.nn _ hl) (hx _ hl) _
def gY(n:Nat)(q:fJ->Rat)(l:fJ):Rat:=if l.1<n then q l else 0
theorem KI{W:Rat}{q:fJ->Rat}(j:Nat):∀(t:List fJ) (Q:Rat),(∀l∈t,l.1<n)->pO W (gY n q) Q t j=pO W q Q t j
 |[],_,_=>rfl
 |l::t,Q,h=>by have e:gY n q l=q l:=ab (h l kc);unfold pO;rw[e,KI j t _ λu hu=>h u (by simp[hu])]
theorem Ul{W:Rat}{q r:fJ->Rat}(j:Nat):∀(t:List fJ) (Q R B:Rat),(∀l∈t,l.1<n)->jd W (gY n q) (gY n r) Q R B t j=jd W q r Q R B t j
 |[],_,_,_,_=>rfl
 |l::t,Q,R,B,h=>by have e:gY n q l=q l:=ab (h l kc);have e2:gY n r l=r l:=ab (h l kc);unfold jd;rw[e,e2,Ul j t _ _ _ λu hu=>h u (by simp[hu])]
def amq(hg:JV n g){x y:Nat->Rat}(hx:Nn n x)(hxy:Le n x y)(j:Nat):gG n g x j<=gG n g y j:=by
 unfold gG;have h1:∀l:fJ,l.1<n->gq g x l<=gq g y l:=λl hl=>NP (hg.nn _ hl) (hx _ hl) (hxy _ hl) _;have h2:aB n (λi=>aB (g.k i) λc=>if vK g j i c then gq g x (i,c)else 0)<=aB n λi=>aB (g.k i) λc=>if vK g j i c then gq g y (i,c)else 0:=
  oH λi hi=>oH λc _=>by grind
 have h3:aJ g.ds (dG g x j)<=aJ g.ds (dG g y j):=vI λd hd=>by
  have hl:=λl hl=>sN hg hd (l:=l) hl;have a:aJ d.2 (gq g x)<=aJ d.2 (gq g y):=vI λl hl=>h1 l (sN hg hd hl);have b:=NQ (W:=d.1) (q:=gY n (gq g x)) (q':=gY n (gq g y)) (λl=>by
   grind[gY,QG]) (λl=>by
   grind[gY]) j d.2 0 0 be
  grind[KI,jV,dG]
 grind
def Xg(gf:fJ->Rat):∀L:List fJ,L.Nodup->(∀l∈L,l.1<n/\l.2<g.k l.1)->aB n (λi=>aB (g.k i) λc=>if(i,c)∈L then gf (i,c)else 0)=aJ L gf
 |[],_,_=>bI λi _=>bI λc _=>by simp
 |p::t,hn,hl=>by
  rw[ip]at hn;have hp:=hl p kc;have e:aB n (λi=>aB (g.k i) λc=>if(i,c)∈p::t then gf (i,c)else 0)=aB n λi=>(if i=p.1 then gf p else 0)+aB (g.k i) λc=>if(i,c)∈t then gf (i,c)else 0:=aO λi _=>by
   have e2:(if i=p.1 then gf p else 0)=aB (g.k i) λc=>if i=p.1/\c=p.2 then gf p else 0:=by grind[jk,bI]
   rw[e2,<-dJ];grind
  have hd:aB n (λi=>if i=p.1 then gf p else 0)=gf p:=by grind[jk]
  rw[e,dJ,hd,Xg gf t hn.2 λl hl'=>hl l (by simp[hl'])];rfl
def ZP{α:Type}(l:List α)(f:α->List fJ)(gf:fJ->Rat):aJ (l.flatMap f) gf=aJ l λa=>aJ (f a) gf:=by
 induction l with
 |nil=>rfl
 |cons a l ih=>
  rw[gR]
  have:∀(u v:List fJ),aJ (u++v) gf=aJ u gf+aJ v gf:=λu v=>by
   induction u with
   |nil=>grind[aJ]
   |cons x u ih=>
    grind[aJ]
  rw[this,ih];rfl
def Uc(g:GL)(x:Nat->Rat)(i c:Nat):Rat:=if(i,c)∉g.fA/\g.h i c=-1 then gq g x (i,c)else 0
def aeh(g:GL)(x:Nat->Rat)(d:Rat×List fJ):Rat:=if Po g d=-1 then jV d.1 (aJ d.2 (gq g x))else 0
def ahO(hg:JV n g)(x:Nat->Rat)(hx:Nn n x):aB n (λi=>x i-gG n g x i)=aB n (λi=>x i-aB (g.k i) (sK (g.e i) (x i)))+aB n (λi=>aB (g.k i) (Uc g x i))+aJ g.ds (aeh g x):=by
 have a1:aB n (λj=>aB n λi=>aB (g.k i) λc=>if vK g j i c then gq g x (i,c)else 0)=aB n λi=>aB (g.k i) λc=>if(i,c)∈g.fA\/g.h i c=-1 then 0 else gq g x (i,c):=by rw[y7];refine aO λi hi=>?_;simp_all[y7,aO,amo]
 have a2:aB n (λj=>aJ g.ds (dG g x j))=aJ g.ds λd=>(if Po g d=-1 then 0 else jV d.1 (aJ d.2 (gq g x)))+rH (aJ d.2 (gq g x)-d.1):=by
  rw[DV g.ds λd j=>dG g x j d];refine dY λd hd=>?_;have e:aB n (λj=>dG g x j d)=aB n (λj=>if Po g d=(j:Int)then jV d.1 (aJ d.2 (gq g x))else 0)+aB n λj=>pO d.1 (gq g x) 0 d.2 j:=by rw[<-dJ];rfl
  rw[e,aq4 hg hd,abK d.2 0 λl hl=>sN hg hd hl];have h0:=hg.pos d hd;have e2:rH (0-d.1)=0:=by unfold rH;split<;>grind
  grind
 have a3:aB n (λi=>aB (g.k i) λc=>if(i,c)∈g.fA then gq g x (i,c)else 0)=aJ g.ds λd=>aJ d.2 (gq g x):=by rw[Xg (gq g x) g.fA hg.nodup hg.fA];exact ZP _ _ _
 have a4:aB n (λi=>aB (g.k i) λc=>if(i,c)∈g.fA\/g.h i c=-1 then 0 else gq g x (i,c))=aB n (λi=>aB (g.k i) (sK (g.e i) (x i)))-aB n (λi=>aB (g.k i) λc=>if(i,c)∈g.fA then gq g x (i,c)else 0)-aB n (λi=>aB (g.k i) (Uc g x i)):=by
  rw[<-iw,<-iw];refine aO λi _=>?_;rw[<-iw,<-iw];refine aO λc _=>?_;have e:sK (g.e i) (x i) c=gq g x (i,c):=rfl;rw[e];unfold Uc;by_cases h1:(i,c)∈g.fA
  .rw[ab (.inl h1),ab h1,ae λh=>h.1 h1];grind
  .by_cases h2:g.h i c=-1
   .rw[ab (.inr h2),ae h1,ab ⟨h1,h2⟩];grind
   .rw[ae (by simp[h1,h2]),ae h1,ae λh=>h2 h.2];grind
 have a5:aJ g.ds (λd=>(if Po g d=-1 then 0 else jV d.1 (aJ d.2 (gq g x)))+rH (aJ d.2 (gq g x)-d.1))=aJ g.ds (λd=>aJ d.2 (gq g x))-aJ g.ds (aeh g x):=by
  rw[<-NK];refine dY λd hd=>?_;unfold aeh;have e:jV d.1 (aJ d.2 (gq g x))+rH (aJ d.2 (gq g x)-d.1)=aJ d.2 (gq g x):=by unfold jV rH;split<;>split<;>grind
  split<;>grind
 have a6:aB n (λi=>x i-gG n g x i)=aB n x-(aB n (λj=>aB n λi=>aB (g.k i) λc=>if vK g j i c then gq g x (i,c)else 0)+aB n λj=>aJ g.ds (dG g x j)):=by rw[<-dJ,<-iw];rfl
 grind[iw]
def amr(hg:JV n g){x y:Nat->Rat}(hx:Nn n x)(hxy:Le n x y):aB n (λi=>x i-gG n g x i)<=aB n (λi=>y i-gG n g y i):=by
 rw[ahO hg x hx,ahO hg y (hx.le hxy)];have h0:∀l:fJ,l.1<n->gq g x l<=gq g y l:=λl hl=>NP (hg.nn _ hl) (hx _ hl) (hxy _ hl) _;have h1:aB n (λi=>x i-aB (g.k i) (sK (g.e i) (x i)))<=aB n (λi=>y i-aB (g.k i) (sK (g.e i) (y i))):=
  oH λi hi=>WX (hg.nn i hi) (hg.inn i hi) (hx i hi) (hxy i hi)
 have h2:aB n (λi=>aB (g.k i) (Uc g x i))<=aB n (λi=>aB (g.k i) (Uc g y i)):=oH λi hi=>oH λc _=>by grind[Uc]
 have h3:aJ g.ds (aeh g x)<=aJ g.ds (aeh g y):=vI λd hd=>by have a:aJ d.2 (gq g x)<=aJ d.2 (gq g y):=vI λl hl=>h0 l (sN hg hd hl);grind[aeh,jV]
 grind
def gr(g:GL)(x d:Nat->Rat)(l:fJ):Rat:=wY (g.e l.1) (x l.1) l.2*d l.1
structure Ok(n:Nat)(g:GL)(x d:Nat->Rat)(s:Rat):Prop where
 e:∀i,i<n->∀c,c<g.k i->sK (g.e i) (x i+s*d i) c=sK (g.e i) (x i) c+s*d i*wY (g.e i) (x i) c
 d:∀d'∈g.ds,okD d'.1 (gq g x) (gr g x d) s 0 0 d'.2
def ahP{x d:Nat->Rat}{l:fJ}(hl:l.1<n):aB n (λi=>gs g x i l*d i)=gr g x d l:=by grind[gs,gr,jk]
def auD(hg:JV n g){x:Nat->Rat}(hx:Nn n x){l:fJ}(hl:l.1<n)(i:Nat):0<=gs g x i l:=by
 unfold gs;split
 .exact qL (hg.nn _ hl) (hx _ hl) _
 rfl
def Um{W:Rat}{q r:fJ->Rat}{s:Rat}:∀(t:List fJ) (Q R:Rat),(∀l∈t,l.1<n)->(okD W (gY n q) (gY n r) s Q R t↔okD W q r s Q R t)
 |[],_,_,_=>Iff.rfl
 |l::t,Q,R,h=>by have e:gY n q l=q l:=ab (h l kc);have e2:gY n r l=r l:=ab (h l kc);unfold okD;rw[e,e2,Um t _ _ λu hu=>h u (by simp[hu])]
def ahQ(hg:JV n g){x d:Nat->Rat}(hx:Nn n x)(hd:Nn n d){s:Rat}(h0:0<=s)(ho:Ok n g x d s){j:Nat}(hj:j<n):gG n g (aY x d s) j=gG n g x j+s*mv n (gM n g x) d j:=by
 have hq:∀l:fJ,l.1<n->l.2<g.k l.1->gq g (aY x d s) l=gq g x l+s*gr g x d l:=λl h1 h2=>by have:=ho.e l.1 h1 l.2 h2;grind[gq,gr,aY]
 have a1:aB n (λi=>aB (g.k i) λc=>if vK g j i c then gq g (aY x d s) (i,c)else 0)=aB n (λi=>aB (g.k i) λc=>if vK g j i c then gq g x (i,c)else 0)+s*aB n λi=>aB (g.k i) (λc=>if vK g j i c then gs g x i (i,c)else 0)*d i:=by rw[<-fP,<-dJ];refine aO λi hi=>?_;rw[<-pK,<-fP,<-dJ];grind[Go.Proofs.Ins.aO,Go.Proofs.Ins.gs,Go.Proofs.Ins.gr]
 have a2:∀d'∈g.ds,dG g (aY x d s) j d'=dG g x j d'+s*aB n λi=>dM g x j i d'*d i:=λd' hd'=>by
  have hl:=λl hl=>sN hg hd' (l:=l) hl;have hl2:∀l∈d'.2,l.2<g.k l.1:=λl hl=>(hg.fA l (cD.mpr ⟨d',hd',hl⟩)).2;have hok:=ho.d d' hd';have hcq:∀l,0<=gY n (gq g x) l:=λl=>by
   unfold gY;split
   .next h=>exact QG hg hx h
   .exact be
  have hcr:∀l,0<=gY n (gr g x d) l:=λl=>by
   unfold gY;split
   .next h=>exact ce (qL (hg.nn _ h) (hx _ h) _) (hd _ h)
   .exact be
  have hq0:(0:Rat)<d'.1->s*0<=d'.1-0:=λh=>by grind
  have b1:=abE (W:=d'.1) h0 hcr j d'.2 0 0 be hq0 ((Um d'.2 0 0 hl).mpr hok);have b2:pO d'.1 (λl=>gY n (gq g x) l+s*gY n (gr g x d) l) (0+s*0) d'.2 j=pO d'.1 (gq g (aY x d s)) 0 d'.2 j:=by
   have z:(0:Rat)+s*0=0:=by grind
   rw[z];clear b1 hok hq0;have:∀(t:List fJ) (Q:Rat),(∀l∈t,l.1<n/\l.2<g.k l.1)->pO d'.1 (λl=>gY n (gq g x) l+s*gY n (gr g x d) l) Q t j=pO d'.1 (gq g (aY x d s)) Q t j:=by
    intro t;induction t with
    |nil=>intro Q _;rfl
    |cons l t ih=>
     intro Q h
     have h1:=h l kc
     have e:gY n (gq g x) l+s*gY n (gr g x d) l=gq g (aY x d s) l:=by rw[hq l h1.1 h1.2];unfold gY;rw[ab h1.1,ab h1.1]
     unfold pO
     rw[e,ih _ λu hu=>h u (by simp[hu])]
   exact this d'.2 0 λl h=>⟨hl l h,hl2 l h⟩
  rw[b2,KI j _ _ hl,Ul j _ _ _ _ hl]at b1;have z0:nN d'.1 0 0=0:=by unfold nN;split<;>rfl
  rw[z0]at b1;have b3:jd d'.1 (gq g x) (gr g x d) 0 0 0 d'.2 j=aB n λi=>jd d'.1 (gq g x) (gs g x i) 0 0 0 d'.2 j*d i:=by
   have c:=abJ (n:=n) (W:=d'.1) (q:=gq g x) d (gs g x) j d'.2 0 (λ_=>0) (λ_=>0);have z:aB n (λi=>0*d i)=0:=bI λi _=>by rw[Rat.zero_mul]
   rw[z]at c;rw[<-c];have:∀(t:List fJ) (Q R B:Rat),(∀l∈t,l.1<n)->jd d'.1 (gq g x) (gr g x d) Q R B t j=jd d'.1 (gq g x) (λl=>aB n λi=>gs g x i l*d i) Q R B t j:=by
    intro t;induction t with
    |nil=>intro Q R B _;rfl
    |cons l t ih=>
     intro Q R B h
     unfold jd
     rw[ahP (h l kc),ih _ _ _ λu hu=>h u (by simp[hu])]
   exact this d'.2 0 0 0 hl
  have b4:aJ d'.2 (gq g (aY x d s))=aJ d'.2 (gq g x)+s*aJ d'.2 (gr g x d):=by rw[<-wX,<-CZ];exact dY λl h=>hq l (hl l h) (hl2 l h)
  have b5:aJ d'.2 (gr g x d)=aB n λi=>aJ d'.2 (gs g x i)*d i:=by
   have:aB n (λi=>aJ d'.2 (gs g x i)*d i)=aB n λi=>aJ d'.2 λl=>gs g x i l*d i:=aO λi _=>by rw[fW,<-wX];exact dY λl _=>fW _ _
   rw[this,DV d'.2 λl i=>gs g x i l*d i];exact dY λl h=>(ahP (hl l h)).symm
  have b6:0<=aJ d'.2 (gr g x d):=mV λl h=>ce (qL (hg.nn _ (hl l h)) (hx _ (hl l h)) _) (hd _ (hl l h));have b7:=abG d'.2 0 0 hok (λh=>by grind);rw[gn,gn]at b7;have b8:=amh (W:=d'.1) h0 b6 b7;have b9:aB n (λi=>(aJ d'.2 (gs g x i)-nN d'.1 (aJ d'.2 (gq g x)) (aJ d'.2 (gs g x i)))*d i)=aJ d'.2 (gr g x d)-nN d'.1 (aJ d'.2 (gq g x)) (aJ d'.2 (gr g x d)):=by rw[b5,abI,<-iw];exact aO λi _=>by grind
  unfold dG dM;rw[b1,b3,b4,b8];by_cases e:Po g d'=(j:Int)
  .simp only[ab e];have:aB n (λi=>(aJ d'.2 (gs g x i)-nN d'.1 (aJ d'.2 (gq g x)) (aJ d'.2 (gs g x i))+jd d'.1 (gq g x) (gs g x i) 0 0 0 d'.2 j)*d i)=aB n (λi=>(aJ d'.2 (gs g x i)-nN d'.1 (aJ d'.2 (gq g x)) (aJ d'.2 (gs g x i)))*d i)+aB n λi=>jd d'.1 (gq g x) (gs g x i) 0 0 0 d'.2 j*d i:=by rw[<-dJ];exact aO λi _=>by rw[Rat.add_mul]
   rw[this,b9];grind
  .simp only[ae e];have:aB n (λi=>(0+jd d'.1 (gq g x) (gs g x i) 0 0 0 d'.2 j)*d i)=aB n λi=>jd d'.1 (gq g x) (gs g x i) 0 0 0 d'.2 j*d i:=aO λi _=>by rw[gn]
   rw[this];grind
 have a3:aJ g.ds (dG g (aY x d s) j)=aJ g.ds (dG g x j)+s*aB n λi=>aJ g.ds (dM g x j i)*d i:=by rw[dY a2,CZ,wX];congr 2;rw[<-DV g.ds λd' i=>dM g x j i d'*d i];refine aO λi _=>?_;rw[fW,<-wX];exact dY λ_ _=>fW _ _
 have a4:mv n (gM n g x) d j=aB n (λi=>aB (g.k i) (λc=>if vK g j i c then gs g x i (i,c)else 0)*d i)+aB n λi=>aJ g.ds (dM g x j i)*d i:=by rw[<-dJ];exact aO λi _=>by unfold gM;rw[Rat.add_mul]
 grind[gG]
end
def lT(a:gB):List Nat:=(vH a).map Int.toNat
def En(cs:List C5)(r:Nat):Nat->dP
 |0=>[]
 |k+1=>En cs r k++if(ix cs k).r=(r:Int)then [((k:Int),(ix cs k).a.q)]else []
def ZQ(cs:List C5)(k:Nat):gu:=(List.range 8).map λr=>En cs r k
def lpS(s:(Nat->Rat)×dP)(x:yQ):(Nat->Rat)×dP:=
 if x.k=-1 then(s.1,s.2++[((-1:Int),x.a.q)])
 else((λi=>if i=x.k.toNat then s.1 i-(if x.b=true then jV (s.1 x.k.toNat) x.a.q else s.1 x.k.toNat)else s.1 i),s.2++[(x.k,if x.b=true then jV (s.1 x.k.toNat) x.a.q else s.1 x.k.toNat)])
def ltS(s:(Nat->Rat)×gu)(t:JQ):(Nat->Rat)×gu:=((t.foldl lpS (s.1,[])).1,s.2++[(t.foldl lpS (s.1,[])).2])
def lsA(cs:List C5)(a:gB):(Nat->Rat)×gu:=a.foldl ltS ((λi:Nat=>(ix cs i).a.q),[])
def yK(ms:List Nat)(f:Nat->Rat):dP:=ms.map λi:Nat=>((i:Int),f i)
def rM(cs:List C5)(a:gB):List Nat×gu:=(lT a,(lsA cs a).2++[yK (lT a) (lsA cs a).1])
def dI(e:xU):eH:=⟨ZQ e.c e.c.length,e.a.map (rM e.c)⟩
structure Pq(P:Rat->Prop):Prop where
 min:∀a b,P a->P b->P (jV a b)
 sub:∀a b,P a->P b->P (a-jV a b)
 zero:P 0
def Pv(P:Rat->Prop)(n:Nat)(x:yQ):Prop:=(x.k=-1\/0<=x.k/\x.k<n)/\((x.k=-1\/x.b=true)->P x.a.q)
def zD(P:Rat->Prop)(n:Nat)(t:dP):Prop:=∀p∈t,(p.1=-1\/0<=p.1/\p.1<n)/\P p.2
section
variable {P:Rat→Prop} {n:Nat}
def zD.snoc{t:dP}(h:zD P n t){p:Int×Rat}(h1:p.1=-1\/0<=p.1/\p.1<n)(h2:P p.2):zD P n (t++[p]):=λq hq=>by
 rcases bX.mp hq with hq|hq
 .exact h q hq
 grind
def auE(hP:Pq P){s:(Nat->Rat)×dP}(h1:∀i,P (s.1 i))(h2:zD P n s.2){x:yQ}(hx:Pv P n x):(∀i,P ((lpS s x).1 i))/\zD P n (lpS s x).2:=by
 unfold lpS;by_cases e:x.k=-1
 .rw[ab e];exact⟨h1,h2.snoc (.inl rfl) (hx.2 (.inl e))⟩
 .rw[ae e];dsimp only;have self:P (s.1 x.k.toNat-s.1 x.k.toNat):=by rw[show s.1 x.k.toNat-s.1 x.k.toNat=0 by grind];exact hP.zero
  refine⟨λi=>?_,h2.snoc hx.1 ?_⟩
  .split
   .next e2=>
    rw[e2];split
    .next hb=>exact hP.sub _ _ (h1 _) (hx.2 (.inr hb))
    omega
   grind
  .dsimp only;split
   .next hb=>exact hP.min _ _ (h1 _) (hx.2 (.inr hb))
   grind
def ZR(hP:Pq P):∀(t:JQ){s:(Nat->Rat)×dP},(∀i,P (s.1 i))->zD P n s.2->(∀x∈t,Pv P n x)->(∀i,P ((t.foldl lpS s).1 i))/\zD P n (t.foldl lpS s).2
 |[],_,h1,h2,_=>⟨h1,h2⟩
 |x::t,s,h1,h2,h=>by obtain⟨h3,h4⟩:=auE hP h1 h2 (h x kc);exact ZR hP t h3 h4 λy hy=>h y (by simp[hy])
def wZ(P:Rat->Prop)(n:Nat)(l:gu):Prop:=∀t∈l,zD P n t
def wZ.snoc{l:gu}(h:wZ P n l){t:dP}(ht:zD P n t):wZ P n (l++[t]):=λu hu=>by
 rcases bX.mp hu with hu|hu
 .exact h u hu
 grind
def ZT(hP:Pq P):∀(a:gB){s:(Nat->Rat)×gu},(∀i,P (s.1 i))->wZ P n s.2->(∀t∈a,∀x∈t,Pv P n x)->(∀i,P ((a.foldl ltS s).1 i))/\wZ P n (a.foldl ltS s).2
 |[],_,h1,h2,_=>⟨h1,h2⟩
 |t::a,s,h1,h2,h=>by obtain⟨h3,h4⟩:=ZR hP t (s:=(s.1,[])) h1 (λ_ h=>by cases h) (h t kc);exact ZT hP a (s:=ltS s t) h3 (h2.snoc h4) λu hu=>h u (by simp[hu])
def ahR(hP:Pq P){cs:List C5}{a:gB}(hc:∀i,P (ix cs i).a.q)(ha:∀t∈a,∀x∈t,Pv P n x):(∀i,P ((lsA cs a).1 i))/\wZ P n (lsA cs a).2:=ZT hP a hc (λ_ h=>by cases h) ha
def tq{a:gB}(ha:∀t∈a,∀x∈t,x.k=-1\/0<=x.k/\x.k<n):∀c∈vH a,0<=c/\c<n:=λc hc=>by obtain⟨h1,h2⟩:=qB.mp hc;obtain⟨t,ht,hm⟩:=fR.mp h2;obtain⟨x,hx,e⟩:=fR.mp hm;grind
def xg{a:gB}(ha:∀t∈a,∀x∈t,x.k=-1\/0<=x.k/\x.k<n){i:Nat}:i∈lT a↔O7 a (i:Int)=true:=by
 unfold lT;rw[cQ];constructor
 .rintro⟨c,hc,rfl⟩;have h1:=tq ha c hc;rw[eN h1.1];exact(qB.mp hc).2
 .intro h;exact⟨i,qB.mpr ⟨jb,h⟩,by simp⟩
def ZU{a:gB}(ha:∀t∈a,∀x∈t,x.k=-1\/0<=x.k/\x.k<n):(lT a).Nodup:=by unfold lT;rw[im,List.pairwise_map];refine List.Pairwise.imp_of_mem (λ{x y} hx hy h=>?_) (abg a);have:=tq ha x hx;omega
def abX(hP:Pq P){cs:List C5}{a:gB}(hc:∀i,P (ix cs i).a.q)(ha:∀t∈a,∀x∈t,Pv P n x):wZ P n (rM cs a).2:=by obtain⟨h1,h2⟩:=ahR hP hc ha;refine h2.snoc λp hp=>?_;unfold yK at hp;obtain⟨i,hi,rfl⟩:=cQ.mp hp;have:=(xg λt ht x hx=>(ha t ht x hx).1).mp hi;have h3:=tq (a:=a) (λt ht x hx=>(ha t ht x hx).1) i (qB.mpr ⟨jb,this⟩);grind
def N8{cs:List C5}(hc:∀i,i<cs.length->P (ix cs i).a.q)(r:Nat):∀k,k<=cs.length->∀p∈En cs r k,(0<=p.1/\p.1<cs.length)/\P p.2
 |0,_,p,hp=>by cases hp
 |k+1,hk,p,hp=>by
  unfold En at hp;rcases bX.mp hp with hp|hp
  .exact N8 hc r k jb p hp
  grind
end
end Go.Proofs.Ins
