import Derived.Test.YthkggcakedkboaaGreatDoorZ20
set_option linter.all false
set_option maxRecDepth 100000
namespace Go.Proofs.Xe
open Go.RowKit Go.Proofs.Ins
def abZ{E:Env}{a b:AC}{tm:Tr V}{σ:St}{Q:AX->Tr V->St->Prop}(M:Tr V->St->Prop)(h1:bH E a tm σ λe tm σ=>e=.normal/\M tm σ)(h2:∀tm' σ',M tm' σ'->bH E b tm' σ' Q):bH E (.seq a b) tm σ Q:=
 run_seq (h1.mono λe tm σ' ⟨he,hm⟩=>by subst he;exact h2 _ _ hm)
structure JY{α:Type}[Inhabited α](h:Tr Bk)(n:Nat)(c:α->List B)(e ty:Nat)(L:Nat->List α)(bs:Nat->Nat)(lo hi:Nat):Prop where
 blk:∀i,i<n->0<(L i).length->h (bs i)=some ⟨bK (L i).length (λk=>c (ix (L i) k)),some (e,ty)⟩/\lo<=bs i/\bs i<hi
 inj:∀i j,i<n->j<n->0<(L i).length->0<(L j).length->bs i=bs j->i=j
section
variable {α:Type} [Inhabited α] {h h' : Tr Bk} {n e ty lo hi:Nat} {c:α→List B} {L:Nat→List α} {bs:Nat→Nat}
theorem JY.nil(h:Tr Bk)(n:Nat)(c:α->List B)(e ty:Nat)(bs:Nat->Nat)(lo hi:Nat):JY h n c e ty (λ_=>[]) bs lo hi:=⟨λi _ h=>by simp at h,λi j _ _ h=>by simp at h⟩
def JY.mono(hf:JY h n c e ty L bs lo hi)(hh:∀b,lo<=b->b<hi->h' b=h b){hi':Nat}(h2:hi<=hi'):JY h' n c e ty L bs lo hi':=
 ⟨λi hi hp=>by obtain⟨k1,k2,k3⟩:=hf.blk i hi hp;exact⟨by rw[hh _ k2 k3];exact k1,k2,jb⟩,hf.inj⟩
theorem gJ(l:List α)(x:α){k:Nat}(h:k<l.length):ix (l++[x]) k=ix l k:=by rw[Qs,ab h]
theorem gK(l:List α)(x:α):ix (l++[x]) l.length=x:=by rw[Qs,ae jb,ab rfl]
def JY.push(hf:JY h n c e ty L bs lo hi){i nx:Nat}(hi':i<n)(x:α){cells:List B}(hc:cells=bK (L i).length (λk=>c (ix (L i) k))++c x)(h1:h' nx=some ⟨cells,some (e,ty)⟩)
  (hh:∀j,j<n->j≠i->0<(L j).length->h' (bs j)=h (bs j)) (hlo:lo<=nx) (hnx:hi<=nx){hi2:Nat}(h2:nx<hi2):JY h' n c e ty (aN L i (L i++[x])) (aN bs i nx) lo hi2:=by
 refine⟨λj hj hp=>?_,λa b ha hb pa pb e=>?_⟩
 .by_cases e:j=i
  .subst e
   rw[aP,aP,aD,bY]
   refine⟨?_,hlo,h2⟩
   rw[h1,hc,lZ]
   congr 2
   refine bZ λk hk=>?_
   unfold ji
   split
   .next e=>rw[e,gK]
   .rw[gJ _ _ jb]
  .rw[aQ _ _ _ _ e]at hp⊢
   rw[aQ _ _ _ _ e]
   obtain⟨k1,k2,k3⟩:=hf.blk j hj hp
   exact⟨by rw[hh j hj e hp];exact k1,k2,jb⟩
 .by_cases e1:a=i
  .by_cases e2:b=i
   .rw[e1,e2]
   .rw[e1,aP,aQ _ _ _ _ e2]at e
    rw[aQ _ _ _ _ e2]at pb
    have:=(hf.blk b hb pb).2.2
    omega
  .by_cases e2:b=i
   .rw[e2,aP,aQ _ _ _ _ e1]at e
    rw[aQ _ _ _ _ e1]at pa
    have:=(hf.blk a ha pa).2.2
    omega
   .rw[aQ _ _ _ _ e1]at pa
    rw[aQ _ _ _ _ e2]at pb
    rw[aQ _ _ _ _ e1,aQ _ _ _ _ e2]at e
    exact hf.inj a b ha hb pa pb e
def JY.hlp(hf:JY h n c e ty L bs lo hi){p:Nat->Prop}(hp:∀b,lo<=b->b<hi->p b)(hc:∀x,(c x).length=e)(he:0<e)(hk:∀x,(c x).all B.kn=true){i:Nat}(hi':i<n):aY p h e (kX (L i) (bs i)) (L i).length λk=>c (ix (L i) k):=by
 by_cases h0:(L i).length=0
 .exact .inl ⟨h0,by unfold kX;rw[ab h0]⟩
 .obtain⟨k1,k2,k3⟩:=hf.blk i hi' jb;rw[iZ jb];exact bf _ k1 (by rw[Cb _ _ jb]) (hp _ k2 k3) (λ_=>hc _) he λ_ _=>hk _
end
def jk.lt{σ:St}(hW:WF σ){p:Nat->Prop}{v:B}{l:List iw}(hl:jk p σ.h v l):jk (Lt σ.aj) σ.h v l:=by obtain⟨T,k1,k2⟩:=hl;refine⟨T,k1.lt hW,λj hj=>?_⟩;obtain⟨U,m1,m2⟩:=k2 j hj;exact⟨U,m1.lt hW,λl hl=>(m2 l hl).lt hW⟩
theorem jk.fr{σ σ':St}(hW:WF σ)(hf:Fr σ σ'){p:Nat->Prop}{v:B}{l:List iw}(hl:jk p σ.h v l):jk (Lt σ.aj) σ'.h v l:=(hl.lt hW).keep hf.lt λ_ h=>h
def ahL(al:List iw)(c:Int):Prop:=∀j,j<al.length->∀t,t<(ix al j).length->∀p,p<(ix (ix al j) t).length->(ix (ix (ix al j) t) p).k≠c
def aq4(al:List iw):Prop:=al.length<=1000/\∀j,j<al.length->(ix al j).length<=1000/\∀t,t<(ix al j).length->(ix (ix al j) t).length<=1000
def aq5{σ:St}(hW:WF σ){p:Nat->Prop}{x1 x2 x3 C A:B}(al:List iw)(hA:jk p σ.h A al)(hl:aq4 al)(h1:x1.kn=true)(h2:x2.kn=true)(h3:x3.kn=true)(h4:C.kn=true)(c:Int):
  aC EN 50 [.agg [x1,x2,x3,C,A],.c (.int .i64 c)] σ λr σ'=>(∃b,r=.c (.bool b)/\(b=true->ahL al c))/\Fr σ σ':=by
 refine aO (IY.o _ _) IY.h ?_
 unfold IY
 dsimp only
 obtain⟨T,hT,hT2⟩:=hA
 have hlen:=hT.len
 have hkn:=hT.kn
 simp(disch:=try exact jz) only[go_sem,z3,hkn,hlen]
 refine aF (λq tm σ'=>∃j,q=al.length-j/\j<=al.length/\Tr.ah tm 1=.c (.int .i64 c)/\Tr.ah tm 12=.c A/\Tr.ah tm 13=.c (.int .i64 (.ofNat al.length))/\Tr.ah tm 14=.c (.int .i64 (.ofNat j))
  /\(∀j',j'<j->∀t,t<(ix al j').length->∀p,p<(ix (ix al j') t).length->(ix (ix (ix al j') t) p).k≠c)/\Fr σ σ') al.length ?_ ?_
 .refine⟨0,jb,jb,?_⟩
  simp(disch:=try exact jz) only[go_sem,z3,am]
  exact⟨λj hj=>jb,fr⟩
 .rintro q tm σ' ⟨j,rfl,hj,t1,t12,t13,t14,hfree,hf⟩
  have hle:=hf.le
  have hl0:=hl.1
  simp(disch:=try exact jz) only[go_sem,z3,t1,t12,t13,t14,aG]
  refine aH (λhlt=>?_) (λhlt=>?_)
  .obtain⟨b,o,cc,rfl,-,hld⟩:=hT.pos jb
   have hld:=hf.ld hW (hld j hlt)
   have hlk:=(uX hld).2
   have hTj:=hT2 j hlt
   obtain⟨hlj,awP⟩:=hl.2 j hlt
   generalize hag:ix al j=ag at*
   obtain⟨U,hU,hU2⟩:=hTj
   have ahM:=hU.len
   simp(disch:=try exact jz) only[go_sem,z3,t1,t12,t13,t14,hld,hlk,ahM]
   refine aF (λq tm σ3=>∃t,q=ag.length-t/\t<=ag.length/\Tr.ah tm 1=.c (.int .i64 c)/\Tr.ah tm 12=.c (.sl b o al.length cc)/\Tr.ah tm 13=.c (.int .i64 (.ofNat al.length))/\Tr.ah tm 14=.c (.int .i64 (.ofNat j))
    /\Tr.ah tm 19=.c (T j)/\Tr.ah tm 20=.c (.int .i64 (.ofNat ag.length))/\Tr.ah tm 21=.c (.int .i64 (.ofNat t))
    /\(∀t',t'<t->∀p,p<(ix ag t').length->(ix (ix ag t') p).k≠c)/\Fr σ σ3) ag.length ?_ ?_
   .refine⟨0,jb,jb,?_⟩
    simp(disch:=try exact jz) only[go_sem,z3,t1,t12,t13,t14,am]
    exact⟨λt ht=>jb,fr⟩
   .rintro q tm3 σ3 ⟨t,rfl,ht,t1,t12,t13,t14,t19,t20,t21,ahN,hf3⟩
    simp(disch:=try exact jz) only[go_sem,z3,t1,t12,t13,t14,t19,t20,t21,aG]
    refine aH (λhlt3=>?_) (λhlt3=>?_)
    .obtain⟨b3,o3,c3,e3,-,um⟩:=hU.pos jb
     have um:=hf3.ld hW (um t hlt3)
     have um:=(uX um).1
     have hPt:=hU2 t hlt3
     have hlt4:=awP t hlt3
     generalize hti:ix ag t=ti at*
     have NZ:=hPt.len
     rw[e3]at t19
     simp(disch:=try exact jz) only[go_sem,z3,t1,t12,t13,t14,t19,t20,t21,um,NZ]
     refine aF (λq tm σ5=>∃k,q=ti.length-k/\k<=ti.length/\Tr.ah tm 1=.c (.int .i64 c)/\Tr.ah tm 12=.c (.sl b o al.length cc)/\Tr.ah tm 13=.c (.int .i64 (.ofNat al.length))/\Tr.ah tm 14=.c (.int .i64 (.ofNat j))
      /\Tr.ah tm 19=.c (.sl b3 o3 ag.length c3)/\Tr.ah tm 20=.c (.int .i64 (.ofNat ag.length))/\Tr.ah tm 21=.c (.int .i64 (.ofNat t))
      /\Tr.ah tm 25=.c (U t)/\Tr.ah tm 26=.c (.int .i64 (.ofNat ti.length))/\Tr.ah tm 27=.c (.int .i64 (.ofNat k))
      /\(∀p,p<k->(ix ti p).k≠c)/\Fr σ σ5) ti.length ?_ ?_
     .refine⟨0,jb,jb,?_⟩
      simp(disch:=try exact jz) only[go_sem,z3,t1,t12,t13,t14,t19,t20,t21,am]
      exact⟨λt ht=>jb,hf3⟩
     .rintro q tm5 σ5 ⟨k,rfl,hk,t1,t12,t13,t14,t19,t20,t21,t25,t26,t27,ahO,hf5⟩
      simp(disch:=try exact jz) only[go_sem,z3,t1,t12,t13,t14,t19,t20,t21,t25,t26,t27,aG]
      refine aH (λamh=>?_) (λamh=>?_)
      .obtain⟨b5,o5,c5,e5,-,bF⟩:=hPt.pos jb
       have bF:=hf5.ld hW (bF k amh)
       unfold Bh at bF
       rw[e5]at t25
       have yO:=hf5.le
       simp(disch:=try exact jz) only[go_sem,z3,t1,t12,t13,t14,t19,t20,t21,t25,t26,t27,bF]
       refine aH (λhq=>?_) (λhq=>?_)
       .simp(disch:=try exact jz) only[go_sem,z3,t1]
        exact⟨⟨_,rfl,λh=>by cases h⟩,fr⟩
       .simp(disch:=try exact jz) only[go_sem,z3,t1,t12,t13,t14,t19,t20,t21,t25,t26,t27]
        refine⟨ti.length-(k+1),jb,k+1,rfl,jb,by rw[e5],rfl,λp hp=>?_,fr⟩
        by_cases e:p=k
        .rw[e];exact hq
        .exact ahO p jb
      .have:k=ti.length:=jb
       subst this
       simp(disch:=try exact jz) only[go_sem,z3,t1,t12,t13,t14,t19,t20,t21]
       refine⟨ag.length-(t+1),jb,t+1,rfl,jb,by rw[e3],rfl,λt' ht'=>?_,hf5⟩
       by_cases e:t'=t
       .rw[e,hti];exact ahO
       .exact ahN t' jb
    .have:t=ag.length:=jb
     subst this
     simp(disch:=try exact jz) only[go_sem,z3,t1,t12,t13,t14]
     refine⟨al.length-(j+1),jb,j+1,rfl,jb,rfl,λj' hj'=>?_,hf3⟩
     by_cases e:j'=j
     .rw[e,hag];exact ahN
     .exact hfree j' jb
  .have:j=al.length:=jb
   subst this
   simp(disch:=try exact jz) only[go_sem,z3,t1]
   exact⟨⟨_,rfl,λ_=>hfree⟩,hf⟩
def QK(Q:(Nat->Prop)->Tr Bk->Nat->Prop)(j:Nat):Prop:=∀(p q:Nat->Prop) (h h':Tr Bk),Q p h j->(∀b,p b->h' b=h b)->(∀b,p b->q b)->Q q h' j
section
variable {Q:(Nat→Prop)→Tr Bk→Nat→Prop} {h h' : Tr Bk} {v:B} {n:Nat} {G G' : Nat→List B} {e ty lo hi:Nat}
end
section
variable {R:B→(Nat→Prop)→Tr Bk→Nat→Prop} {U:Nat→B} {h h' h1:Tr Bk} {v x:B} {n ty lo hi hi1 nx n' : Nat}
end
def nU{r:R3}{k:Nat}(h:r.fits k)(hk:k<=50000000):r.s.size+r.d.size<=130000000:=by have:=h.1;have:=h.2;omega
def dV.kn{p:Nat->Prop}{h:Tr Bk}{v:B}{l:iw}(hl:dV p h v l):v.kn=true:=hl.choose_spec.1.kn
def jk.at{p:Nat->Prop}{h:Tr Bk}{v:B}{l:List iw}(hl:jk p h v l){j:Nat}(hj:j<l.length):∃b o c,v=.sl b o l.length c/\∃T:B,ld h b (o+j*1) 1 true=some (.agg [T])/\dV p h T (ix l j):=by obtain⟨T,h1,h2⟩:=hl;obtain⟨b,o,c,e,-,hld⟩:=h1.pos jb;grind
def dV.at{p:Nat->Prop}{h:Tr Bk}{v:B}{l:iw}(hl:dV p h v l){j:Nat}(hj:j<l.length):∃b o c,v=.sl b o l.length c/\∃T:B,ld h b (o+j*1) 1 false=some (.c T)/\Cj p h T (ix l j):=by obtain⟨T,h1,h2⟩:=hl;obtain⟨b,o,c,e,-,hld⟩:=h1.pos jb;exact⟨b,o,c,e,T j,(uX (hld j hj)).1,h2 j hj⟩
def jk.len{p:Nat->Prop}{h:Tr Bk}{v:B}{l:List iw}(hl:jk p h v l):lenV (.c v)=some (.c (.int .i64 (.ofNat l.length))):=hl.choose_spec.1.len
def dV.len{p:Nat->Prop}{h:Tr Bk}{v:B}{l:iw}(hl:dV p h v l):lenV (.c v)=some (.c (.int .i64 (.ofNat l.length))):=hl.choose_spec.1.len
theorem dV.fr{σ σ':St}(hW:WF σ)(hf:Fr σ σ'){p:Nat->Prop}{v:B}{l:iw}(hl:dV p σ.h v l):dV (Lt σ.aj) σ'.h v l:=by obtain⟨T,h1,h2⟩:=hl;exact⟨T,h1.fr hW hf,λi hi=>(h2 i hi).fr hW hf⟩
structure NF(Q:(Nat->Prop)->Tr Bk->Nat->Prop)(h:Tr Bk)(b n:Nat)(G:Nat->List B)(e ty lo hi:Nat):Prop where
 g:xO n h b=gF n G e ty
 L:LG G e
 l1:lo<=b
 l2:n=0\/b<hi
 q:∀j,j<n->Q (λx=>lo<=x/\x<b) h j
def NoQ(_:Nat->Prop)(_:Tr Bk)(_:Nat):Prop:=True
def JK(j:Nat):QK NoQ j:=λ_ _ _ _ h _ _=>h
section
variable {Q Q' : (Nat→Prop)→Tr Bk→Nat→Prop} {h h' : Tr Bk} {b n:Nat} {G G' : Nat→List B} {e ty lo hi:Nat}
theorem NF.nil(hL:LG G e):NF Q h lo 0 G e ty lo hi:=⟨rfl,hL,jp,.inl rfl,λ_ h=>jb⟩
def NF.own(ho:NF Q h b n G e ty lo hi):zJ h (aU n b) n G e ty lo hi:=by
 obtain⟨g,L,h1,h2,-⟩:=ho;cases n with
 |zero=>exact .inl ⟨rfl,rfl⟩
 |succ n=>exact .inr ⟨jb,b,rfl,g,h1,jb⟩
def NF.hlp(ho:NF Q h b n G e ty lo hi)(he:0<e)(hk:∀j,j<n->(G j).all B.kn=true){p:Nat->Prop}(hp:∀b,lo<=b->b<hi->p b):aY p h e (aU n b) n G:=zJ.hlp ho.own ho.L he hk hp
def NF.mono(ho:NF Q h b n G e ty lo hi)(hQ:∀j,j<n->QK Q j)(hh:∀b,lo<=b->b<hi->h' b=h b){hi':Nat}(h2:hi<=hi'):NF Q h' b n G e ty lo hi':=by have h3:=ho.l1;have h4:=ho.l2;refine⟨?_,ho.L,ho.l1,jb,λj hj=>hQ j hj _ _ _ _ (ho.q j hj) (λx hx=>hh x hx.1 jb) λx hx=>hx⟩;rw[vT,ho.g];grind
def NF.el(ho:NF Q h b n G e ty lo hi)(hQ:∀j,j<n->QK Q j){j:Nat}(hj:j<n):Q (λx=>lo<=x/\x<hi) h j:=by have h4:=ho.l2;exact hQ j hj _ _ _ _ (ho.q j hj) (λ_ _=>rfl) λx hx=>⟨hx.1,jb⟩
def NF.push(ho:NF Q h b n G e ty lo hi)(hQ:∀j,j<=n->QK Q' j)(hQQ:∀j,j<n->∀p h,Q p h j->Q' p h j){hi1 nx n':Nat}{h1:Tr Bk}(hx:Q' (λb=>hi<=b/\b<hi1) h1 n)(hh:∀b,lo<=b->b<hi->h1 b=h b)(h2:hi<=hi1)(h3:hi1<=nx)(h4:nx<n')(h5:lo<=hi)
  {x:List B}(hb:h' nx=some ⟨bK n G++x,some (e,ty)⟩) (hgn:x=G' n) (hk:∀c,lo<=c->c<hi1->n=0\/c≠b->h' c=h1 c) (hg:∀i,i<n->G' i=G i) (hL:LG G' e):NF Q' h' nx (n+1) G' e ty lo n':=by
 obtain⟨g,-,l1,l2,q⟩:=ho
 refine⟨?_,hL,jb,jb,λj hj=>?_⟩
 .show h' nx=some _
  grind[Go.Proofs.Xe.lZ,Go.Proofs.Xe.bZ,Go.Proofs.Xe.ji]
 .by_cases e:j=n
  .subst e
   exact hQ j jb _ _ _ _ hx (λx hx=>hk x jb hx.2 jb) λx hx=>⟨jb,jb⟩
  .exact hQ j jb _ _ _ _ (hQQ j jb _ _ (q j jb)) (λx hx=>by grind) λx hx=>⟨hx.1,jb⟩
end
def yx(p:Nat->Prop)(h:Tr Bk)(v:B)(l:gI):Prop:=
 ∃G:Nat->B,aY p h 4 v l.length (λi=>jP (G i) (aW (ix l i)))/\alm v/\∀i,i<l.length->aY p h 4 (G i) (ix l i).length λj=>zH (ix (ix l i) j)
def ZV(p:Nat->Prop)(h:Tr Bk)(v:B)(ms:List Nat):Prop:=aY p h 1 v ms.length λi=>[Pq ms i]
structure yA(p:Nat->Prop)(h:Tr Bk)(rv pv:B)(e:eH):Prop where
 rk:yx p h rv e.rk
 ps:∃Gm Gl:Nat->B,aY p h 2 pv e.ps.length (λi=>[Gm i,Gl i])/\∀i,i<e.ps.length->ZV p h (Gm i) (ix e.ps i).1/\yx p h (Gl i) (ix e.ps i).2
section
variable {p q:Nat→Prop} {h h' : Tr Bk} {v rv pv:B} {l:gI} {ms:List Nat} {e:eH}
def yx.lad(hl:yx p h v l):Hz h v l:=by obtain⟨G,h1,h2,h3⟩:=hl;exact⟨G,h1.hl,h2,λi hi=>(h3 i hi).hl⟩
def yx.keep(hl:yx p h v l)(hk:∀b,p b->h' b=h b)(hp:∀b,p b->q b):yx q h' v l:=by obtain⟨G,h1,h2,h3⟩:=hl;exact⟨G,h1.keep hk hp,h2,λi hi=>(h3 i hi).keep hk hp⟩
def yx.kn(hl:yx p h v l):v.kn=true:=hl.choose_spec.1.kn
def ZV.hc(hl:ZV p h v ms):HC h v ms.length (Pq ms):=by
 by_cases h0:0<ms.length
 .obtain⟨b,o,c,e,hld⟩:=HL.one (aY.hl hl) h0;exact .inr ⟨b,o,c,e,hld⟩
 .rcases aY.hl hl with h1|⟨b,o,c,e,-⟩
  .exact .inl h1
  .exact .inr ⟨b,o,c,e,λi hi=>jb⟩
def yA.lay(hl:yA p h rv pv e):Je h rv pv e:=by obtain⟨h1,Gm,Gl,h2,h3⟩:=hl;exact⟨h1.lad,Gm,Gl,h2.hl,λi hi=>⟨(h3 i hi).1.hc,(h3 i hi).2.lad⟩⟩
def yA.keep(hl:yA p h rv pv e)(hk:∀b,p b->h' b=h b)(hp:∀b,p b->q b):yA q h' rv pv e:=by obtain⟨h1,Gm,Gl,h2,h3⟩:=hl;exact⟨h1.keep hk hp,Gm,Gl,h2.keep hk hp,λi hi=>⟨aY.keep (h3 i hi).1 hk hp,(h3 i hi).2.keep hk hp⟩⟩
def yA.Vm(hl:yA p h rv pv e):pv.kn=true:=by obtain⟨-,Gm,Gl,h2,-⟩:=hl;exact h2.kn
end
def N7(h:Tr Bk)(bs:Nat)(t:dO):Prop:=xO t.length h bs=gF t.length (λj=>zH (ix t j)) 4 203
def N7.hlp{p:Nat->Prop}{h:Tr Bk}{bs:Nat}{t:dO}(ho:N7 h bs t)(hp:t.length=0\/p bs):aY p h 4 (aU t.length bs) t.length λj=>zH (ix t j):=by
 unfold N7 at ho;generalize t.length=n at*;cases n with
 |zero=>exact .inl ⟨rfl,rfl⟩
 |succ n=>exact bf _ ho rfl (hp.resolve_left jb) (λ_=>rfl) jj λ_ _=>rfl
def QH(t:dO)(p:Int×Rat):aW (t++[p])=aW t+p.2:=by
 induction t with
 |nil=>show p.2+0=0+p.2;grind
 |cons q t ih=>grind[aW]
structure kY(h:Tr Bk)(n:Nat)(k:Nat->Nat)(C:Nat->Nat->List B)(bs:Nat->Nat)(lo hi:Nat):Prop where
 r:∀i,i<n->h (bs i)=some ⟨bK (k i) (C i),none⟩/\lo<=bs i/\bs i<hi
 inj:∀i j,i<n->j<n->bs i=bs j->i=j
def xP(k bs:Nat->Nat)(i:Nat):B:=.sl (bs i) 0 (k i) (.ex (k i))
section
variable {h h' : Tr Bk} {n lo hi:Nat} {k bs:Nat→Nat} {C:Nat→Nat→List B}
theorem kY.nil(h:Tr Bk)(k:Nat->Nat)(C:Nat->Nat->List B)(bs:Nat->Nat)(lo hi:Nat):kY h 0 k C bs lo hi:=⟨λi hi=>jb,λi j hi=>jb⟩
def kY.mono(ho:kY h n k C bs lo hi)(hh:∀b,lo<=b->b<hi->h' b=h b){lo' hi':Nat}(h1:lo'<=lo)(h2:hi<=hi'):kY h' n k C bs lo' hi':=
 ⟨λi hi=>by obtain⟨k1,k2,k3⟩:=ho.r i hi;grind,ho.inj⟩
def kY.mono'(ho:kY h n k C bs lo hi)(hh:∀i,i<n->h' (bs i)=h (bs i)){lo' hi':Nat}(h1:lo'<=lo)(h2:hi<=hi'):kY h' n k C bs lo' hi':=
 ⟨λi hi=>by obtain⟨k1,k2,k3⟩:=ho.r i hi;grind,ho.inj⟩
def kY.congr{C':Nat->Nat->List B}(ho:kY h n k C bs lo hi)(hc:∀i,i<n->∀c,c<k i->C i c=C' i c):kY h n k C' bs lo hi:=
 ⟨λi hi=>by obtain⟨k1,k2,k3⟩:=ho.r i hi;grind[bZ],ho.inj⟩
def kY.push(ho:kY h n k C bs lo hi){nb:Nat}{c:List B}(hb:h' nb=some ⟨c,none⟩)(hc:c=bK (k n) (C n))(hn:hi<=nb){hi':Nat}(h2:nb<hi')(hl:lo<=nb)(hh:∀b,lo<=b->b<hi->(∃i,i<n/\b=bs i)->h' b=h b):kY h' (n+1) k C (aN bs n nb) lo hi':=by
 refine⟨λi hi1=>?_,λi j hi1 hj e=>?_⟩
 .by_cases e:i=n
  .grind[aP]
  .obtain⟨k1,k2,k3⟩:=ho.r i jb;grind[aQ]
 .by_cases e1:i=n<;>by_cases e2:j=n
  .omega
  .exfalso;rw[e1,aP,aQ _ _ _ _ e2]at e;have:=(ho.r j jb).2.2;omega
  .exfalso;rw[e2,aP,aQ _ _ _ _ e1]at e;have:=(ho.r i jb).2.2;omega
  .rw[aQ _ _ _ _ e1,aQ _ _ _ _ e2]at e;exact ho.inj i j jb jb e
def qW(C:Nat->Nat->List B)(i c:Nat)(x:List B):Nat->Nat->List B:=λi' c'=>if i'=i/\c'=c then x else C i' c'
def kY.set(ho:kY h n k C bs lo hi){i c:Nat}{x l:List B}(hi1:i<n)(hl:l=bK (k i) (ji (C i) c x)):kY (hset h (bs i) ⟨l,none⟩) n k (qW C i c x) bs lo hi:=by
 refine⟨λj hj=>?_,ho.inj⟩;obtain⟨k1,k2,k3⟩:=ho.r j hj;by_cases e:j=i
 .grind[Go.Proofs.Xe.aA,Go.Proofs.Xe.bZ,Go.Proofs.Xe.ji,Go.Proofs.Xe.qW]
 .rw[au _ _ _ _ (λe2=>e (ho.inj j i hj hi1 e2)),k1];grind[Go.Proofs.Xe.bZ,Go.Proofs.Xe.qW]
def kY.hlp(ho:kY h n k C bs lo hi){p:Nat->Prop}{e:Nat}(hp:∀b,lo<=b->b<hi->p b)(he:0<e)(hC:∀i c,(C i c).length=e)(hk:∀i c,i<n->c<k i->(C i c).all B.kn=true){i:Nat}(hi1:i<n):aY p h e (xP k bs i) (k i) (C i):=by obtain⟨k1,k2,k3⟩:=ho.r i hi1;exact bf _ k1 rfl (hp _ k2 k3) (hC i) he λc hc=>hk i c hi1 hc
end
def aeg(G:Nat->List B)(i:Nat)(a b:List B):ji (ji G i a) i b=ji G i b:=by grind[ji]
def Xp{G:Nat->List B}{e i:Nat}{x:List B}(hG:∀j,(G j).length=e)(hx:x.length=e)(j:Nat):(ji G i x j).length=e:=by grind[ji]
def ab1(G:Nat->List B)(i:Nat)(x:List B):ji G i x i=x:=ab rfl
def ami(t:dO):LG (λj=>zH (ix t j)) 4:=λ_=>rfl
def ahP{σ:St}(hW:WF σ){b n r:Nat}{G:Nat->List B}{o:Option (Nat×Nat)}(hb:σ.h b=some ⟨bK n G,o⟩)(hr:r<n)(hG:∀j,(G j).length=4)(hpl:plo o=true)(hrd:Yr o=true){t:dO}{bs:Nat}(hGr:G r=jP (aU t.length bs) (aW t))(hT:N7 σ.h bs t)(hne:t.length=0\/bs≠b)(hbs:t.length=0\/bs<σ.aj)(hl:t.length<=1000000)(k:Int)(q:Rat)(hs:Sz (aW t))(hq:Sz q):
  aC EN 93 [.c (.ptr b (r*4)),.c (.int .i64 k),.agg [.bool (rn q),.str (rs q),.str (rd q)]] σ λ_ σ'=>∃nx,σ.aj<=nx/\nx<σ'.aj/\σ'.h b=some ⟨bK n (ji G r (jP (.sl nx 0 (t.length+1) .opn) (aW t+q))),o⟩/\σ'.h nx=some ⟨bK t.length (λj=>zH (ix t j))++zH (k,q),some (4,203)⟩/\aT [b,bs] σ σ':=by
 refine aO (nI.o _ _) nI.h ?_
 unfold nI
 dsimp only
 have hbl:=hW.lt hb
 have hFr:=Fr.refl hW
 have l0:ld σ.h b (r*4) 1 false=some (.c (aU t.length bs)):=by have:=yG (k:=0) (m:=1) false hG hr jj jj;rw[cD,hGr]at this;rw[ak hb,Nc];dsimp only;rw[hrd,cC,this];unfold jP yY;simp[Ky]
 have w0:∀x:B,xX (bK n G) (r*4) [x]=some (bK n (ji G r (jP x (aW t)))):=λx=>by have:=Af (k:=0) (vs:=[x]) hG hr kc;rw[cD]at this;rw[this,hGr];rfl
 have r1:∀x:B,yY (bK n (ji G r (jP x (aW t)))) (r*4+1) 3 true=some (.agg [.bool (rn (aW t)),.str (rs (aW t)),.str (rd (aW t))]):=λx=>by have:=yG (k:=1) (m:=3) (G:=ji G r (jP x (aW t))) true (Xp hG rfl) hr jj jj;rw[this,ab1];rfl
 have w1:∀x a c d:B,xX (bK n (ji G r (jP x (aW t)))) (r*4+1) [a,c,d]=some (bK n (ji G r [x,a,c,d])):=λx a c d=>by have:=Af (k:=1) (vs:=[a,c,d]) (G:=ji G r (jP x (aW t))) (Xp hG rfl) hr kc;rw[this,ab1,<-aeg G r (jP x (aW t)) [x,a,c,d]];rfl
 have hLG:=ami t
 unfold N7 at hT
 simp(disch:=try exact jz) only[go_sem,z3,l0,aJ hb,w0,r1,w1,hpl,hrd,hb,hT]
 refine⟨σ.aj+1+1,jb,jb,?_,?_,?_⟩
 .rfl
 .rw[au _ _ _ _ jb,au _ _ _ _ jb,aA];rfl
 .repeat(first|assumption|exact aT.refl (by assumption)|exact aT.up (by assumption) kf|exact aT.up (aT.refl (by assumption)) kf|refine aT.set1 ?_ kg kf|refine aT.kG ?_ kg|refine aT.nH ?_ kg|refine aT.oh ?_ kf)
end Go.Proofs.Xe
namespace Go.Proofs.Ins
structure GL where
 e:Nat->eH
 k:Nat->Nat
 h:Nat->Nat->Int
 ds:List (Rat×List fA)
def GL.dU(g:GL):List fA:=g.ds.flatMap (·.2)
def gq(g:GL)(x:Nat->Rat)(l:fA):Rat:=sU (g.e l.1) (x l.1) l.2
def gs(g:GL)(x:Nat->Rat)(i:Nat)(l:fA):Rat:=if l.1=i then xC (g.e l.1) (x l.1) l.2 else 0
def FB(g:GL)(d:Rat×List fA):Int:=match d.2 with|[]=>-1|l::_=>g.h l.1 l.2
def dG(g:GL)(x:Nat->Rat)(j:Nat)(d:Rat×List fA):Rat:=(if FB g d=(j:Int)then jO d.1 (aI d.2 (gq g x))else 0)+nS d.1 (gq g x) 0 d.2 j
def dM(g:GL)(x:Nat->Rat)(j i:Nat)(d:Rat×List fA):Rat:=
 (if FB g d=(j:Int)then aI d.2 (gs g x i)-nR d.1 (aI d.2 (gq g x)) (aI d.2 (gs g x i))else 0)+jh d.1 (gq g x) (gs g x i) 0 0 0 d.2 j
def uw(g:GL)(j i c:Nat):Bool:=!(g.dU.contains (i,c))&&g.h i c==(j:Int)
def gG(n:Nat)(g:GL)(x:Nat->Rat)(j:Nat):Rat:=aB n (λi=>aB (g.k i) λc=>if uw g j i c then gq g x (i,c)else 0)+aI g.ds (dG g x j)
def gM(n:Nat)(g:GL)(x:Nat->Rat)(j i:Nat):Rat:=aB (g.k i) (λc=>if uw g j i c then gs g x i (i,c)else 0)+aI g.ds (dM g x j i)
structure Jf(n:Nat)(g:GL):Prop where
 nn:∀i,i<n->Bj (g.e i)
 inn:∀i,i<n->InE (g.k i) (g.e i)
 hold:∀i c,i<n->c<g.k i->g.h i c=-1\/0<=g.h i c/\g.h i c<n
 dU:∀l∈g.dU,l.1<n/\l.2<g.k l.1
 nodup:g.dU.Nodup
 pos:∀d∈g.ds,0<=d.1
section
variable {n:Nat} {g:GL}
def aeh(hg:Jf n g){d:Rat×List fA}(hd:d∈g.ds):FB g d=-1\/0<=FB g d/\FB g d<n:=by
 unfold FB;split
 .omega
 .next l t e=>
  have h1:=hg.dU l (by grind[GL.dU]);exact hg.hold _ _ h1.1 h1.2
def sW(hg:Jf n g){d:Rat×List fA}(hd:d∈g.ds){l:fA}(hl:l∈d.2):l.1<n:=
 (hg.dU l (cE.mpr ⟨d,hd,hl⟩)).1
def aq6(hg:Jf n g){d:Rat×List fA}(hd:d∈g.ds)(v:Rat):aB n (λj=>if FB g d=(j:Int)then v else 0)=if FB g d=-1 then 0 else v:=by
 rcases aeh hg hd with h|⟨h1,h2⟩
 .grind[bC]
 .rw[ae jb,iP (k:=(FB g d).toNat) jb λj _ hne=>ae jb,ab jb]
def amj(hg:Jf n g){i c:Nat}(hi:i<n)(hc:c<g.k i)(v:Rat):aB n (λj=>if uw g j i c then v else 0)=if(i,c)∈g.dU\/g.h i c=-1 then 0 else v:=by
 by_cases hl:(i,c)∈g.dU
 .grind[bC,uw]
 .rcases hg.hold i c hi hc with h|⟨h1,h2⟩
  .grind[bC,uw]
  .rw[ae kd,iP (k:=(g.h i c).toNat) jb λj _ hne=>?_,ab ?_]
   .grind[uw]
   grind[uw]
theorem QI(hg:Jf n g){x:Nat->Rat}(hx:Nn n x){l:fA}(hl:l.1<n):0<=gq g x l:=Jb (hg.nn _ hl) (hx _ hl) _
def iq(n:Nat)(q:fA->Rat)(l:fA):Rat:=if l.1<n then q l else 0
theorem KN{W:Rat}{q:fA->Rat}(j:Nat):∀(t:List fA) (Q:Rat),(∀l∈t,l.1<n)->nS W (iq n q) Q t j=nS W q Q t j
 |[],_,_=>rfl
 |l::t,Q,h=>by have e:iq n q l=q l:=ab (h l kc);unfold nS;rw[e,KN j t _ λu hu=>h u (by simp[hu])]
theorem Us{W:Rat}{q r:fA->Rat}(j:Nat):∀(t:List fA) (Q R B:Rat),(∀l∈t,l.1<n)->jh W (iq n q) (iq n r) Q R B t j=jh W q r Q R B t j
 |[],_,_,_,_=>rfl
 |l::t,Q,R,B,h=>by have e:iq n q l=q l:=ab (h l kc);have e2:iq n r l=r l:=ab (h l kc);unfold jh;rw[e,e2,Us j t _ _ _ λu hu=>h u (by simp[hu])]
def amk(hg:Jf n g){x y:Nat->Rat}(hx:Nn n x)(hxy:Le n x y)(j:Nat):gG n g x j<=gG n g y j:=by
 unfold gG;have h1:∀l:fA,l.1<n->gq g x l<=gq g y l:=λl hl=>NM (hg.nn _ hl) (hx _ hl) (hxy _ hl) _;have h2:aB n (λi=>aB (g.k i) λc=>if uw g j i c then gq g x (i,c)else 0)<=aB n λi=>aB (g.k i) λc=>if uw g j i c then gq g y (i,c)else 0:=
  oL λi hi=>oL λc _=>by grind
 have h3:aI g.ds (dG g x j)<=aI g.ds (dG g y j):=vW λd hd=>by
  have hl:=λl hl=>sW hg hd (l:=l) hl;have a:aI d.2 (gq g x)<=aI d.2 (gq g y):=vW λl hl=>h1 l (sW hg hd hl);have b:=NP (W:=d.1) (q:=iq n (gq g x)) (q':=iq n (gq g y)) (λl=>by
   grind[iq,QI]) (λl=>by
   grind[iq]) j d.2 0 0 be
  grind[KN,jO,dG]
 grind
def N8(gf:fA->Rat):∀L:List fA,L.Nodup->(∀l∈L,l.1<n/\l.2<g.k l.1)->aB n (λi=>aB (g.k i) λc=>if(i,c)∈L then gf (i,c)else 0)=aI L gf
 |[],_,_=>bC λi _=>bC λc _=>by simp
 |p::t,hn,hl=>by
  rw[iN]at hn;have hp:=hl p kc;have e:aB n (λi=>aB (g.k i) λc=>if(i,c)∈p::t then gf (i,c)else 0)=aB n λi=>(if i=p.1 then gf p else 0)+aB (g.k i) λc=>if(i,c)∈t then gf (i,c)else 0:=aK λi _=>by
   have e2:(if i=p.1 then gf p else 0)=aB (g.k i) λc=>if i=p.1/\c=p.2 then gf p else 0:=by grind[iP,bC]
   rw[e2,<-bP];grind
  have hd:aB n (λi=>if i=p.1 then gf p else 0)=gf p:=by grind[iP]
  rw[e,bP,hd,N8 gf t hn.2 λl hl'=>hl l (by simp[hl'])];rfl
def N9{α:Type}(l:List α)(f:α->List fA)(gf:fA->Rat):aI (l.flatMap f) gf=aI l λa=>aI (f a) gf:=by
 induction l with
 |nil=>rfl
 |cons a l ih=>
  rw[ii]
  have:∀(u v:List fA),aI (u++v) gf=aI u gf+aI v gf:=λu v=>by
   induction u with
   |nil=>grind[aI]
   |cons x u ih=>
    grind[aI]
  rw[this,ih];rfl
def Ui(g:GL)(x:Nat->Rat)(i c:Nat):Rat:=if(i,c)∉g.dU/\g.h i c=-1 then gq g x (i,c)else 0
def aei(g:GL)(x:Nat->Rat)(d:Rat×List fA):Rat:=if FB g d=-1 then jO d.1 (aI d.2 (gq g x))else 0
def ahQ(hg:Jf n g)(x:Nat->Rat)(hx:Nn n x):aB n (λi=>x i-gG n g x i)=aB n (λi=>x i-aB (g.k i) (sU (g.e i) (x i)))+aB n (λi=>aB (g.k i) (Ui g x i))+aI g.ds (aei g x):=by
 have a1:aB n (λj=>aB n λi=>aB (g.k i) λc=>if uw g j i c then gq g x (i,c)else 0)=aB n λi=>aB (g.k i) λc=>if(i,c)∈g.dU\/g.h i c=-1 then 0 else gq g x (i,c):=by rw[zD];refine aK λi hi=>?_;simp_all[zD,aK,amj]
 have a2:aB n (λj=>aI g.ds (dG g x j))=aI g.ds λd=>(if FB g d=-1 then 0 else jO d.1 (aI d.2 (gq g x)))+mZ (aI d.2 (gq g x)-d.1):=by
  rw[pY g.ds λd j=>dG g x j d];refine dB λd hd=>?_;have e:aB n (λj=>dG g x j d)=aB n (λj=>if FB g d=(j:Int)then jO d.1 (aI d.2 (gq g x))else 0)+aB n λj=>nS d.1 (gq g x) 0 d.2 j:=by rw[<-bP];rfl
  rw[e,aq6 hg hd,abO d.2 0 λl hl=>sW hg hd hl];have h0:=hg.pos d hd;have e2:mZ (0-d.1)=0:=by unfold mZ;split<;>grind
  grind
 have a3:aB n (λi=>aB (g.k i) λc=>if(i,c)∈g.dU then gq g x (i,c)else 0)=aI g.ds λd=>aI d.2 (gq g x):=by rw[N8 (gq g x) g.dU hg.nodup hg.dU];exact N9 _ _ _
 have a4:aB n (λi=>aB (g.k i) λc=>if(i,c)∈g.dU\/g.h i c=-1 then 0 else gq g x (i,c))=aB n (λi=>aB (g.k i) (sU (g.e i) (x i)))-aB n (λi=>aB (g.k i) λc=>if(i,c)∈g.dU then gq g x (i,c)else 0)-aB n (λi=>aB (g.k i) (Ui g x i)):=by
  rw[<-fZ,<-fZ];refine aK λi _=>?_;rw[<-fZ,<-fZ];refine aK λc _=>?_;have e:sU (g.e i) (x i) c=gq g x (i,c):=rfl;rw[e];unfold Ui;by_cases h1:(i,c)∈g.dU
  .rw[ab (.inl h1),ab h1,ae λh=>h.1 h1];grind
  .by_cases h2:g.h i c=-1
   .rw[ab (.inr h2),ae h1,ab ⟨h1,h2⟩];grind
   .rw[ae (by simp[h1,h2]),ae h1,ae λh=>h2 h.2];grind
 have a5:aI g.ds (λd=>(if FB g d=-1 then 0 else jO d.1 (aI d.2 (gq g x)))+mZ (aI d.2 (gq g x)-d.1))=aI g.ds (λd=>aI d.2 (gq g x))-aI g.ds (aei g x):=by
  rw[<-Hu];refine dB λd hd=>?_;unfold aei;have e:jO d.1 (aI d.2 (gq g x))+mZ (aI d.2 (gq g x)-d.1)=aI d.2 (gq g x):=by unfold jO mZ;split<;>split<;>grind
  split<;>grind
 have a6:aB n (λi=>x i-gG n g x i)=aB n x-(aB n (λj=>aB n λi=>aB (g.k i) λc=>if uw g j i c then gq g x (i,c)else 0)+aB n λj=>aI g.ds (dG g x j)):=by rw[<-bP,<-fZ];rfl
 grind[fZ]
def aml(hg:Jf n g){x y:Nat->Rat}(hx:Nn n x)(hxy:Le n x y):aB n (λi=>x i-gG n g x i)<=aB n (λi=>y i-gG n g y i):=by
 rw[ahQ hg x hx,ahQ hg y (hx.le hxy)];have h0:∀l:fA,l.1<n->gq g x l<=gq g y l:=λl hl=>NM (hg.nn _ hl) (hx _ hl) (hxy _ hl) _;have h1:aB n (λi=>x i-aB (g.k i) (sU (g.e i) (x i)))<=aB n (λi=>y i-aB (g.k i) (sU (g.e i) (y i))):=
  oL λi hi=>Xi (hg.nn i hi) (hg.inn i hi) (hx i hi) (hxy i hi)
 have h2:aB n (λi=>aB (g.k i) (Ui g x i))<=aB n (λi=>aB (g.k i) (Ui g y i)):=oL λi hi=>oL λc _=>by grind[Ui]
 have h3:aI g.ds (aei g x)<=aI g.ds (aei g y):=vW λd hd=>by have a:aI d.2 (gq g x)<=aI d.2 (gq g y):=vW λl hl=>h0 l (sW hg hd hl);grind[aei,jO]
 grind
def gr(g:GL)(x d:Nat->Rat)(l:fA):Rat:=xC (g.e l.1) (x l.1) l.2*d l.1
structure Ok(n:Nat)(g:GL)(x d:Nat->Rat)(s:Rat):Prop where
 e:∀i,i<n->∀c,c<g.k i->sU (g.e i) (x i+s*d i) c=sU (g.e i) (x i) c+s*d i*xC (g.e i) (x i) c
 d:∀d'∈g.ds,okD d'.1 (gq g x) (gr g x d) s 0 0 d'.2
def ahR{x d:Nat->Rat}{l:fA}(hl:l.1<n):aB n (λi=>gs g x i l*d i)=gr g x d l:=by grind[gs,gr,iP]
def auG(hg:Jf n g){x:Nat->Rat}(hx:Nn n x){l:fA}(hl:l.1<n)(i:Nat):0<=gs g x i l:=by
 unfold gs;split
 .exact qP (hg.nn _ hl) (hx _ hl) _
 rfl
def Ut{W:Rat}{q r:fA->Rat}{s:Rat}:∀(t:List fA) (Q R:Rat),(∀l∈t,l.1<n)->(okD W (iq n q) (iq n r) s Q R t↔okD W q r s Q R t)
 |[],_,_,_=>Iff.rfl
 |l::t,Q,R,h=>by have e:iq n q l=q l:=ab (h l kc);have e2:iq n r l=r l:=ab (h l kc);unfold okD;rw[e,e2,Ut t _ _ λu hu=>h u (by simp[hu])]
def ahS(hg:Jf n g){x d:Nat->Rat}(hx:Nn n x)(hd:Nn n d){s:Rat}(h0:0<=s)(ho:Ok n g x d s){j:Nat}(hj:j<n):gG n g (aZ x d s) j=gG n g x j+s*mv n (gM n g x) d j:=by
 have hq:∀l:fA,l.1<n->l.2<g.k l.1->gq g (aZ x d s) l=gq g x l+s*gr g x d l:=λl h1 h2=>by have:=ho.e l.1 h1 l.2 h2;grind[gq,gr,aZ]
 have a1:aB n (λi=>aB (g.k i) λc=>if uw g j i c then gq g (aZ x d s) (i,c)else 0)=aB n (λi=>aB (g.k i) λc=>if uw g j i c then gq g x (i,c)else 0)+s*aB n λi=>aB (g.k i) (λc=>if uw g j i c then gs g x i (i,c)else 0)*d i:=by rw[<-gu,<-bP];refine aK λi hi=>?_;rw[<-pX,<-gu,<-bP];grind[Go.Proofs.Ins.aK,Go.Proofs.Ins.gs,Go.Proofs.Ins.gr]
 have a2:∀d'∈g.ds,dG g (aZ x d s) j d'=dG g x j d'+s*aB n λi=>dM g x j i d'*d i:=λd' hd'=>by
  have hl:=λl hl=>sW hg hd' (l:=l) hl;have hl2:∀l∈d'.2,l.2<g.k l.1:=λl hl=>(hg.dU l (cE.mpr ⟨d',hd',hl⟩)).2;have hok:=ho.d d' hd';have hcq:∀l,0<=iq n (gq g x) l:=λl=>by
   unfold iq;split
   .next h=>exact QI hg hx h
   .exact be
  have hcr:∀l,0<=iq n (gr g x d) l:=λl=>by
   unfold iq;split
   .next h=>exact cj (qP (hg.nn _ h) (hx _ h) _) (hd _ h)
   .exact be
  have hq0:(0:Rat)<d'.1->s*0<=d'.1-0:=λh=>by grind
  have b1:=abJ (W:=d'.1) h0 hcr j d'.2 0 0 be hq0 ((Ut d'.2 0 0 hl).mpr hok);have b2:nS d'.1 (λl=>iq n (gq g x) l+s*iq n (gr g x d) l) (0+s*0) d'.2 j=nS d'.1 (gq g (aZ x d s)) 0 d'.2 j:=by
   have z:(0:Rat)+s*0=0:=by grind
   rw[z];clear b1 hok hq0;have:∀(t:List fA) (Q:Rat),(∀l∈t,l.1<n/\l.2<g.k l.1)->nS d'.1 (λl=>iq n (gq g x) l+s*iq n (gr g x d) l) Q t j=nS d'.1 (gq g (aZ x d s)) Q t j:=by
    intro t;induction t with
    |nil=>intro Q _;rfl
    |cons l t ih=>
     intro Q h
     have h1:=h l kc
     have e:iq n (gq g x) l+s*iq n (gr g x d) l=gq g (aZ x d s) l:=by rw[hq l h1.1 h1.2];unfold iq;rw[ab h1.1,ab h1.1]
     unfold nS
     rw[e,ih _ λu hu=>h u (by simp[hu])]
   exact this d'.2 0 λl h=>⟨hl l h,hl2 l h⟩
  rw[b2,KN j _ _ hl,Us j _ _ _ _ hl]at b1;have z0:nR d'.1 0 0=0:=by unfold nR;split<;>rfl
  rw[z0]at b1;have b3:jh d'.1 (gq g x) (gr g x d) 0 0 0 d'.2 j=aB n λi=>jh d'.1 (gq g x) (gs g x i) 0 0 0 d'.2 j*d i:=by
   have c:=abN (n:=n) (W:=d'.1) (q:=gq g x) d (gs g x) j d'.2 0 (λ_=>0) (λ_=>0);have z:aB n (λi=>0*d i)=0:=bC λi _=>by rw[Rat.zero_mul]
   rw[z]at c;rw[<-c];have:∀(t:List fA) (Q R B:Rat),(∀l∈t,l.1<n)->jh d'.1 (gq g x) (gr g x d) Q R B t j=jh d'.1 (gq g x) (λl=>aB n λi=>gs g x i l*d i) Q R B t j:=by
    intro t;induction t with
    |nil=>intro Q R B _;rfl
    |cons l t ih=>
     intro Q R B h
     unfold jh
     rw[ahR (h l kc),ih _ _ _ λu hu=>h u (by simp[hu])]
   exact this d'.2 0 0 0 hl
  have b4:aI d'.2 (gq g (aZ x d s))=aI d'.2 (gq g x)+s*aI d'.2 (gr g x d):=by rw[<-xB,<-zG];exact dB λl h=>hq l (hl l h) (hl2 l h)
  have b5:aI d'.2 (gr g x d)=aB n λi=>aI d'.2 (gs g x i)*d i:=by
   have:aB n (λi=>aI d'.2 (gs g x i)*d i)=aB n λi=>aI d'.2 λl=>gs g x i l*d i:=aK λi _=>by rw[gh,<-xB];exact dB λl _=>gh _ _
   rw[this,pY d'.2 λl i=>gs g x i l*d i];exact dB λl h=>(ahR (hl l h)).symm
  have b6:0<=aI d'.2 (gr g x d):=mY λl h=>cj (qP (hg.nn _ (hl l h)) (hx _ (hl l h)) _) (hd _ (hl l h));have b7:=abK d'.2 0 0 hok (λh=>by grind);rw[gi,gi]at b7;have b8:=amb (W:=d'.1) h0 b6 b7;have b9:aB n (λi=>(aI d'.2 (gs g x i)-nR d'.1 (aI d'.2 (gq g x)) (aI d'.2 (gs g x i)))*d i)=aI d'.2 (gr g x d)-nR d'.1 (aI d'.2 (gq g x)) (aI d'.2 (gr g x d)):=by rw[b5,abM,<-fZ];exact aK λi _=>by grind
  unfold dG dM;rw[b1,b3,b4,b8];by_cases e:FB g d'=(j:Int)
  .simp only[ab e];have:aB n (λi=>(aI d'.2 (gs g x i)-nR d'.1 (aI d'.2 (gq g x)) (aI d'.2 (gs g x i))+jh d'.1 (gq g x) (gs g x i) 0 0 0 d'.2 j)*d i)=aB n (λi=>(aI d'.2 (gs g x i)-nR d'.1 (aI d'.2 (gq g x)) (aI d'.2 (gs g x i)))*d i)+aB n λi=>jh d'.1 (gq g x) (gs g x i) 0 0 0 d'.2 j*d i:=by rw[<-bP];exact aK λi _=>by rw[Rat.add_mul]
   rw[this,b9];grind
  .simp only[ae e];have:aB n (λi=>(0+jh d'.1 (gq g x) (gs g x i) 0 0 0 d'.2 j)*d i)=aB n λi=>jh d'.1 (gq g x) (gs g x i) 0 0 0 d'.2 j*d i:=aK λi _=>by rw[gi]
   rw[this];grind
 have a3:aI g.ds (dG g (aZ x d s) j)=aI g.ds (dG g x j)+s*aB n λi=>aI g.ds (dM g x j i)*d i:=by rw[dB a2,zG,xB];congr 2;rw[<-pY g.ds λd' i=>dM g x j i d'*d i];refine aK λi _=>?_;rw[gh,<-xB];exact dB λ_ _=>gh _ _
 have a4:mv n (gM n g x) d j=aB n (λi=>aB (g.k i) (λc=>if uw g j i c then gs g x i (i,c)else 0)*d i)+aB n λi=>aI g.ds (dM g x j i)*d i:=by rw[<-bP];exact aK λi _=>by unfold gM;rw[Rat.add_mul]
 grind[gG]
end
def lW(a:iw):List Nat:=(vV a).map Int.toNat
def Ep(cs:List C5)(r:Nat):Nat->dO
 |0=>[]
 |k+1=>Ep cs r k++if(ix cs k).r=(r:Int)then [((k:Int),(ix cs k).a.q)]else []
def ZW(cs:List C5)(k:Nat):gI:=(List.range 8).map λr=>Ep cs r k
def lpS(s:(Nat->Rat)×dO)(x:Ah):(Nat->Rat)×dO:=
 if x.k=-1 then(s.1,s.2++[((-1:Int),x.a.q)])
 else((λi=>if i=x.k.toNat then s.1 i-(if x.b=true then jO (s.1 x.k.toNat) x.a.q else s.1 x.k.toNat)else s.1 i),s.2++[(x.k,if x.b=true then jO (s.1 x.k.toNat) x.a.q else s.1 x.k.toNat)])
def ltS(s:(Nat->Rat)×gI)(t:JV):(Nat->Rat)×gI:=((t.foldl lpS (s.1,[])).1,s.2++[(t.foldl lpS (s.1,[])).2])
def lsA(cs:List C5)(a:iw):(Nat->Rat)×gI:=a.foldl ltS ((λi:Nat=>(ix cs i).a.q),[])
def yP(ms:List Nat)(f:Nat->Rat):dO:=ms.map λi:Nat=>((i:Int),f i)
def rQ(cs:List C5)(a:iw):List Nat×gI:=(lW a,(lsA cs a).2++[yP (lW a) (lsA cs a).1])
def dJ(e:Bg):eH:=⟨ZW e.c e.c.length,e.a.map (rQ e.c)⟩
structure Pv(P:Rat->Prop):Prop where
 min:∀a b,P a->P b->P (jO a b)
 sub:∀a b,P a->P b->P (a-jO a b)
 zero:P 0
def Px(P:Rat->Prop)(n:Nat)(x:Ah):Prop:=(x.k=-1\/0<=x.k/\x.k<n)/\((x.k=-1\/x.b=true)->P x.a.q)
def zL(P:Rat->Prop)(n:Nat)(t:dO):Prop:=∀p∈t,(p.1=-1\/0<=p.1/\p.1<n)/\P p.2
section
variable {P:Rat→Prop} {n:Nat}
def zL.snoc{t:dO}(h:zL P n t){p:Int×Rat}(h1:p.1=-1\/0<=p.1/\p.1<n)(h2:P p.2):zL P n (t++[p]):=λq hq=>by
 rcases cf.mp hq with hq|hq
 .exact h q hq
 grind
def auH(hP:Pv P){s:(Nat->Rat)×dO}(h1:∀i,P (s.1 i))(h2:zL P n s.2){x:Ah}(hx:Px P n x):(∀i,P ((lpS s x).1 i))/\zL P n (lpS s x).2:=by
 unfold lpS;by_cases e:x.k=-1
 .rw[ab e];exact⟨h1,h2.snoc (.inl rfl) (hx.2 (.inl e))⟩
 .rw[ae e];dsimp only;have self:P (s.1 x.k.toNat-s.1 x.k.toNat):=by rw[show s.1 x.k.toNat-s.1 x.k.toNat=0 by grind];exact hP.zero
  refine⟨λi=>?_,h2.snoc hx.1 ?_⟩
  .split
   .next e2=>
    rw[e2];split
    .next hb=>exact hP.sub _ _ (h1 _) (hx.2 (.inr hb))
    omega
   grind
  .dsimp only;split
   .next hb=>exact hP.min _ _ (h1 _) (hx.2 (.inr hb))
   grind
def ZX(hP:Pv P):∀(t:JV){s:(Nat->Rat)×dO},(∀i,P (s.1 i))->zL P n s.2->(∀x∈t,Px P n x)->(∀i,P ((t.foldl lpS s).1 i))/\zL P n (t.foldl lpS s).2
 |[],_,h1,h2,_=>⟨h1,h2⟩
 |x::t,s,h1,h2,h=>by obtain⟨h3,h4⟩:=auH hP h1 h2 (h x kc);exact ZX hP t h3 h4 λy hy=>h y (by simp[hy])
def xE(P:Rat->Prop)(n:Nat)(l:gI):Prop:=∀t∈l,zL P n t
def xE.snoc{l:gI}(h:xE P n l){t:dO}(ht:zL P n t):xE P n (l++[t]):=λu hu=>by
 rcases cf.mp hu with hu|hu
 .exact h u hu
 grind
def ZY(hP:Pv P):∀(a:iw){s:(Nat->Rat)×gI},(∀i,P (s.1 i))->xE P n s.2->(∀t∈a,∀x∈t,Px P n x)->(∀i,P ((a.foldl ltS s).1 i))/\xE P n (a.foldl ltS s).2
 |[],_,h1,h2,_=>⟨h1,h2⟩
 |t::a,s,h1,h2,h=>by obtain⟨h3,h4⟩:=ZX hP t (s:=(s.1,[])) h1 (λ_ h=>by cases h) (h t kc);exact ZY hP a (s:=ltS s t) h3 (h2.snoc h4) λu hu=>h u (by simp[hu])
def ahT(hP:Pv P){cs:List C5}{a:iw}(hc:∀i,P (ix cs i).a.q)(ha:∀t∈a,∀x∈t,Px P n x):(∀i,P ((lsA cs a).1 i))/\xE P n (lsA cs a).2:=ZY hP a hc (λ_ h=>by cases h) ha
def tK{a:iw}(ha:∀t∈a,∀x∈t,x.k=-1\/0<=x.k/\x.k<n):∀c∈vV a,0<=c/\c<n:=λc hc=>by obtain⟨h1,h2⟩:=qG.mp hc;obtain⟨t,ht,hm⟩:=gb.mp h2;obtain⟨x,hx,e⟩:=gb.mp hm;grind
def xG{a:iw}(ha:∀t∈a,∀x∈t,x.k=-1\/0<=x.k/\x.k<n){i:Nat}:i∈lW a↔Pg a (i:Int)=true:=by
 unfold lW;rw[cQ];constructor
 .rintro⟨c,hc,rfl⟩;have h1:=tK ha c hc;rw[fu h1.1];exact(qG.mp hc).2
 .intro h;exact⟨i,qG.mpr ⟨jb,h⟩,by simp⟩
def Z4{a:iw}(ha:∀t∈a,∀x∈t,x.k=-1\/0<=x.k/\x.k<n):(lW a).Nodup:=by unfold lW;rw[iA,List.pairwise_map];refine List.Pairwise.imp_of_mem (λ{x y} hx hy h=>?_) (abl a);have:=tK ha x hx;omega
def ab2(hP:Pv P){cs:List C5}{a:iw}(hc:∀i,P (ix cs i).a.q)(ha:∀t∈a,∀x∈t,Px P n x):xE P n (rQ cs a).2:=by obtain⟨h1,h2⟩:=ahT hP hc ha;refine h2.snoc λp hp=>?_;unfold yP at hp;obtain⟨i,hi,rfl⟩:=cQ.mp hp;have:=(xG λt ht x hx=>(ha t ht x hx).1).mp hi;have h3:=tK (a:=a) (λt ht x hx=>(ha t ht x hx).1) i (qG.mpr ⟨jb,this⟩);grind
def Oa{cs:List C5}(hc:∀i,i<cs.length->P (ix cs i).a.q)(r:Nat):∀k,k<=cs.length->∀p∈Ep cs r k,(0<=p.1/\p.1<cs.length)/\P p.2
 |0,_,p,hp=>by cases hp
 |k+1,hk,p,hp=>by
  unfold Ep at hp;rcases cf.mp hp with hp|hp
  .exact Oa hc r k jb p hp
  grind
end
end Go.Proofs.Ins
