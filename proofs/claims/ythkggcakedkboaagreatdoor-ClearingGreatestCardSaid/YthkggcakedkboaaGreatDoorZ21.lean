import Derived.Test.YthkggcakedkboaaGreatDoorZ20
set_option linter.all false
set_option maxRecDepth 100000
namespace Go.Proofs.Xe
open Go.RowKit Go.Proofs.Ins
def acf{E:Env}{a b:AC}{tm:Tr V}{σ:St}{Q:AX->Tr V->St->Prop}(M:Tr V->St->Prop)(h1:bI E a tm σ λe tm σ=>e=.normal/\M tm σ)(h2:∀tm' σ',M tm' σ'->bI E b tm' σ' Q):bI E (.seq a b) tm σ Q:=
 run_seq (h1.mono λe tm σ' ⟨he,hm⟩=>by subst he;exact h2 _ _ hm)
structure Kv{α:Type}[Inhabited α](h:Tr Bk)(n:Nat)(c:α->List B)(e ty:Nat)(L:Nat->List α)(bs:Nat->Nat)(lo hi:Nat):Prop where
 blk:∀i,i<n->0<(L i).length->h (bs i)=some ⟨bM (L i).length (λk=>c (ix (L i) k)),some (e,ty)⟩/\lo<=bs i/\bs i<hi
 inj:∀i j,i<n->j<n->0<(L i).length->0<(L j).length->bs i=bs j->i=j
section
variable {α:Type} [Inhabited α] {h h' : Tr Bk} {n e ty lo hi:Nat} {c:α→List B} {L:Nat→List α} {bs:Nat→Nat}
theorem Kv.nil(h:Tr Bk)(n:Nat)(c:α->List B)(e ty:Nat)(bs:Nat->Nat)(lo hi:Nat):Kv h n c e ty (λ_=>[]) bs lo hi:=⟨λi _ h=>by simp at h,λi j _ _ h=>by simp at h⟩
def Kv.mono(hf:Kv h n c e ty L bs lo hi)(hh:∀b,lo<=b->b<hi->h' b=h b){hi':Nat}(h2:hi<=hi'):Kv h' n c e ty L bs lo hi':=
 ⟨λi hi hp=>by obtain⟨k1,k2,k3⟩:=hf.blk i hi hp;exact⟨by rw[hh _ k2 k3];exact k1,k2,jb⟩,hf.inj⟩
theorem gK(l:List α)(x:α){k:Nat}(h:k<l.length):ix (l++[x]) k=ix l k:=by rw[QJ,ab h]
theorem gQ(l:List α)(x:α):ix (l++[x]) l.length=x:=by rw[QJ,ae jb,ab rfl]
def Kv.push(hf:Kv h n c e ty L bs lo hi){i nx:Nat}(hi':i<n)(x:α){cells:List B}(hc:cells=bM (L i).length (λk=>c (ix (L i) k))++c x)(h1:h' nx=some ⟨cells,some (e,ty)⟩)
  (hh:∀j,j<n->j≠i->0<(L j).length->h' (bs j)=h (bs j)) (hlo:lo<=nx) (hnx:hi<=nx){hi2:Nat}(h2:nx<hi2):Kv h' n c e ty (aN L i (L i++[x])) (aN bs i nx) lo hi2:=by
 refine⟨λj hj hp=>?_,λa b ha hb pa pb e=>?_⟩
 .by_cases e:j=i
  .subst e
   rw[aP,aP,aE,bY]
   refine⟨?_,hlo,h2⟩
   rw[h1,hc,l7]
   congr 2
   refine bZ λk hk=>?_
   unfold jk
   split
   .next e=>rw[e,gQ]
   .rw[gK _ _ jb]
  .rw[aQ _ _ _ _ e]at hp⊢
   rw[aQ _ _ _ _ e]
   obtain⟨k1,k2,k3⟩:=hf.blk j hj hp
   exact⟨by rw[hh j hj e hp];exact k1,k2,jb⟩
 .by_cases e1:a=i
  .by_cases e2:b=i
   .rw[e1,e2]
   .rw[e1,aP,aQ _ _ _ _ e2]at e
    rw[aQ _ _ _ _ e2]at pb
    have:=(hf.blk b hb pb).2.2
    omega
  .by_cases e2:b=i
   .rw[e2,aP,aQ _ _ _ _ e1]at e
    rw[aQ _ _ _ _ e1]at pa
    have:=(hf.blk a ha pa).2.2
    omega
   .rw[aQ _ _ _ _ e1]at pa
    rw[aQ _ _ _ _ e2]at pb
    rw[aQ _ _ _ _ e1,aQ _ _ _ _ e2]at e
    exact hf.inj a b ha hb pa pb e
def Kv.hlp(hf:Kv h n c e ty L bs lo hi){p:Nat->Prop}(hp:∀b,lo<=b->b<hi->p b)(hc:∀x,(c x).length=e)(he:0<e)(hk:∀x,(c x).all B.kn=true){i:Nat}(hi':i<n):aY p h e (kX (L i) (bs i)) (L i).length λk=>c (ix (L i) k):=by
 by_cases h0:(L i).length=0
 .exact .inl ⟨h0,by unfold kX;rw[ab h0]⟩
 .obtain⟨k1,k2,k3⟩:=hf.blk i hi' jb;rw[iZ jb];exact bf _ k1 (by rw[Cm _ _ jb]) (hp _ k2 k3) (λ_=>hc _) he λ_ _=>hk _
end
def jl.lt{σ:St}(hW:WF σ){p:Nat->Prop}{v:B}{l:List gZ}(hl:jl p σ.h v l):jl (Lt σ.aj) σ.h v l:=by obtain⟨T,k1,k2⟩:=hl;refine⟨T,k1.lt hW,λj hj=>?_⟩;obtain⟨U,m1,m2⟩:=k2 j hj;exact⟨U,m1.lt hW,λl hl=>(m2 l hl).lt hW⟩
theorem jl.fr{σ σ':St}(hW:WF σ)(hf:Fr σ σ'){p:Nat->Prop}{v:B}{l:List gZ}(hl:jl p σ.h v l):jl (Lt σ.aj) σ'.h v l:=(hl.lt hW).keep hf.lt λ_ h=>h
def ah5(al:List gZ)(c:Int):Prop:=∀j,j<al.length->∀t,t<(ix al j).length->∀p,p<(ix (ix al j) t).length->(ix (ix (ix al j) t) p).k≠c
def arl(al:List gZ):Prop:=al.length<=1000/\∀j,j<al.length->(ix al j).length<=1000/\∀t,t<(ix al j).length->(ix (ix al j) t).length<=1000
def arn{σ:St}(hW:WF σ){p:Nat->Prop}{x1 x2 x3 C A:B}(al:List gZ)(hA:jl p σ.h A al)(hl:arl al)(h1:x1.kn=true)(h2:x2.kn=true)(h3:x3.kn=true)(h4:C.kn=true)(c:Int):
  aC EN 50 [.agg [x1,x2,x3,C,A],.c (.int .i64 c)] σ λr σ'=>(∃b,r=.c (.bool b)/\(b=true->ah5 al c))/\Fr σ σ':=by
 refine aO (Jf.o _ _) Jf.h ?_
 unfold Jf
 dsimp only
 obtain⟨T,hT,hT2⟩:=hA
 have hlen:=hT.len
 have hkn:=hT.kn
 simp(disch:=try exact jz) only[go_sem,z3,hkn,hlen]
 refine aF (λq tm σ'=>∃j,q=al.length-j/\j<=al.length/\Tr.ah tm 1=.c (.int .i64 c)/\Tr.ah tm 12=.c A/\Tr.ah tm 13=.c (.int .i64 (.ofNat al.length))/\Tr.ah tm 14=.c (.int .i64 (.ofNat j))
  /\(∀j',j'<j->∀t,t<(ix al j').length->∀p,p<(ix (ix al j') t).length->(ix (ix (ix al j') t) p).k≠c)/\Fr σ σ') al.length ?_ ?_
 .refine⟨0,jb,jb,?_⟩
  simp(disch:=try exact jz) only[go_sem,z3,am]
  exact⟨λj hj=>jb,fr⟩
 .rintro q tm σ' ⟨j,rfl,hj,t1,t12,t13,t14,hfree,hf⟩
  have hle:=hf.le
  have hl0:=hl.1
  simp(disch:=try exact jz) only[go_sem,z3,t1,t12,t13,t14,aG]
  refine aH (λhlt=>?_) (λhlt=>?_)
  .obtain⟨b,o,cc,rfl,-,hld⟩:=hT.pos jb
   have hld:=hf.ld hW (hld j hlt)
   have hlk:=(vw hld).2
   have hTj:=hT2 j hlt
   obtain⟨hlj,awZ⟩:=hl.2 j hlt
   generalize hag:ix al j=ag at*
   obtain⟨U,hU,hU2⟩:=hTj
   have ah6:=hU.len
   simp(disch:=try exact jz) only[go_sem,z3,t1,t12,t13,t14,hld,hlk,ah6]
   refine aF (λq tm σ3=>∃t,q=ag.length-t/\t<=ag.length/\Tr.ah tm 1=.c (.int .i64 c)/\Tr.ah tm 12=.c (.sl b o al.length cc)/\Tr.ah tm 13=.c (.int .i64 (.ofNat al.length))/\Tr.ah tm 14=.c (.int .i64 (.ofNat j))
    /\Tr.ah tm 19=.c (T j)/\Tr.ah tm 20=.c (.int .i64 (.ofNat ag.length))/\Tr.ah tm 21=.c (.int .i64 (.ofNat t))
    /\(∀t',t'<t->∀p,p<(ix ag t').length->(ix (ix ag t') p).k≠c)/\Fr σ σ3) ag.length ?_ ?_
   .refine⟨0,jb,jb,?_⟩
    simp(disch:=try exact jz) only[go_sem,z3,t1,t12,t13,t14,am]
    exact⟨λt ht=>jb,fr⟩
   .rintro q tm3 σ3 ⟨t,rfl,ht,t1,t12,t13,t14,t19,t20,t21,ah7,hf3⟩
    simp(disch:=try exact jz) only[go_sem,z3,t1,t12,t13,t14,t19,t20,t21,aG]
    refine aH (λhlt3=>?_) (λhlt3=>?_)
    .obtain⟨b3,o3,c3,e3,-,uz⟩:=hU.pos jb
     have uz:=hf3.ld hW (uz t hlt3)
     have uz:=(vw uz).1
     have hPt:=hU2 t hlt3
     have hlt4:=awZ t hlt3
     generalize hti:ix ag t=ti at*
     have Om:=hPt.len
     rw[e3]at t19
     simp(disch:=try exact jz) only[go_sem,z3,t1,t12,t13,t14,t19,t20,t21,uz,Om]
     refine aF (λq tm σ5=>∃k,q=ti.length-k/\k<=ti.length/\Tr.ah tm 1=.c (.int .i64 c)/\Tr.ah tm 12=.c (.sl b o al.length cc)/\Tr.ah tm 13=.c (.int .i64 (.ofNat al.length))/\Tr.ah tm 14=.c (.int .i64 (.ofNat j))
      /\Tr.ah tm 19=.c (.sl b3 o3 ag.length c3)/\Tr.ah tm 20=.c (.int .i64 (.ofNat ag.length))/\Tr.ah tm 21=.c (.int .i64 (.ofNat t))
      /\Tr.ah tm 25=.c (U t)/\Tr.ah tm 26=.c (.int .i64 (.ofNat ti.length))/\Tr.ah tm 27=.c (.int .i64 (.ofNat k))
      /\(∀p,p<k->(ix ti p).k≠c)/\Fr σ σ5) ti.length ?_ ?_
     .refine⟨0,jb,jb,?_⟩
      simp(disch:=try exact jz) only[go_sem,z3,t1,t12,t13,t14,t19,t20,t21,am]
      exact⟨λt ht=>jb,hf3⟩
     .rintro q tm5 σ5 ⟨k,rfl,hk,t1,t12,t13,t14,t19,t20,t21,t25,t26,t27,ah8,hf5⟩
      simp(disch:=try exact jz) only[go_sem,z3,t1,t12,t13,t14,t19,t20,t21,t25,t26,t27,aG]
      refine aH (λamF=>?_) (λamF=>?_)
      .obtain⟨b5,o5,c5,e5,-,bK⟩:=hPt.pos jb
       have bK:=hf5.ld hW (bK k amF)
       unfold BF at bK
       rw[e5]at t25
       have yT:=hf5.le
       simp(disch:=try exact jz) only[go_sem,z3,t1,t12,t13,t14,t19,t20,t21,t25,t26,t27,bK]
       refine aH (λhq=>?_) (λhq=>?_)
       .simp(disch:=try exact jz) only[go_sem,z3,t1]
        exact⟨⟨_,rfl,λh=>by cases h⟩,fr⟩
       .simp(disch:=try exact jz) only[go_sem,z3,t1,t12,t13,t14,t19,t20,t21,t25,t26,t27]
        refine⟨ti.length-(k+1),jb,k+1,rfl,jb,by rw[e5],rfl,λp hp=>?_,fr⟩
        by_cases e:p=k
        .rw[e];exact hq
        .exact ah8 p jb
      .have:k=ti.length:=jb
       subst this
       simp(disch:=try exact jz) only[go_sem,z3,t1,t12,t13,t14,t19,t20,t21]
       refine⟨ag.length-(t+1),jb,t+1,rfl,jb,by rw[e3],rfl,λt' ht'=>?_,hf5⟩
       by_cases e:t'=t
       .rw[e,hti];exact ah8
       .exact ah7 t' jb
    .have:t=ag.length:=jb
     subst this
     simp(disch:=try exact jz) only[go_sem,z3,t1,t12,t13,t14]
     refine⟨al.length-(j+1),jb,j+1,rfl,jb,rfl,λj' hj'=>?_,hf3⟩
     by_cases e:j'=j
     .rw[e,hag];exact ah7
     .exact hfree j' jb
  .have:j=al.length:=jb
   subst this
   simp(disch:=try exact jz) only[go_sem,z3,t1]
   exact⟨⟨_,rfl,λ_=>hfree⟩,hf⟩
def QK(Q:(Nat->Prop)->Tr Bk->Nat->Prop)(j:Nat):Prop:=∀(p q:Nat->Prop) (h h':Tr Bk),Q p h j->(∀b,p b->h' b=h b)->(∀b,p b->q b)->Q q h' j
section
variable {Q:(Nat→Prop)→Tr Bk→Nat→Prop} {h h' : Tr Bk} {v:B} {n:Nat} {G G' : Nat→List B} {e ty lo hi:Nat}
end
section
variable {R:B→(Nat→Prop)→Tr Bk→Nat→Prop} {U:Nat→B} {h h' h1:Tr Bk} {v x:B} {n ty lo hi hi1 nx n' : Nat}
end
def nY{r:R3}{k:Nat}(h:r.fits k)(hk:k<=50000000):r.s.size+r.d.size<=130000000:=by have:=h.1;have:=h.2;omega
def dX.kn{p:Nat->Prop}{h:Tr Bk}{v:B}{l:gZ}(hl:dX p h v l):v.kn=true:=hl.choose_spec.1.kn
def jl.at{p:Nat->Prop}{h:Tr Bk}{v:B}{l:List gZ}(hl:jl p h v l){j:Nat}(hj:j<l.length):∃b o c,v=.sl b o l.length c/\∃T:B,ld h b (o+j*1) 1 true=some (.agg [T])/\dX p h T (ix l j):=by obtain⟨T,h1,h2⟩:=hl;obtain⟨b,o,c,e,-,hld⟩:=h1.pos jb;grind
def dX.at{p:Nat->Prop}{h:Tr Bk}{v:B}{l:gZ}(hl:dX p h v l){j:Nat}(hj:j<l.length):∃b o c,v=.sl b o l.length c/\∃T:B,ld h b (o+j*1) 1 false=some (.c T)/\CO p h T (ix l j):=by obtain⟨T,h1,h2⟩:=hl;obtain⟨b,o,c,e,-,hld⟩:=h1.pos jb;exact⟨b,o,c,e,T j,(vw (hld j hj)).1,h2 j hj⟩
def jl.len{p:Nat->Prop}{h:Tr Bk}{v:B}{l:List gZ}(hl:jl p h v l):lenV (.c v)=some (.c (.int .i64 (.ofNat l.length))):=hl.choose_spec.1.len
def dX.len{p:Nat->Prop}{h:Tr Bk}{v:B}{l:gZ}(hl:dX p h v l):lenV (.c v)=some (.c (.int .i64 (.ofNat l.length))):=hl.choose_spec.1.len
theorem dX.fr{σ σ':St}(hW:WF σ)(hf:Fr σ σ'){p:Nat->Prop}{v:B}{l:gZ}(hl:dX p σ.h v l):dX (Lt σ.aj) σ'.h v l:=by obtain⟨T,h1,h2⟩:=hl;exact⟨T,h1.fr hW hf,λi hi=>(h2 i hi).fr hW hf⟩
structure NF(Q:(Nat->Prop)->Tr Bk->Nat->Prop)(h:Tr Bk)(b n:Nat)(G:Nat->List B)(e ty lo hi:Nat):Prop where
 g:xX n h b=gF n G e ty
 L:LG G e
 l1:lo<=b
 l2:n=0\/b<hi
 q:∀j,j<n->Q (λx=>lo<=x/\x<b) h j
def NoQ(_:Nat->Prop)(_:Tr Bk)(_:Nat):Prop:=True
def Fg(j:Nat):QK NoQ j:=λ_ _ _ _ h _ _=>h
section
variable {Q Q' : (Nat→Prop)→Tr Bk→Nat→Prop} {h h' : Tr Bk} {b n:Nat} {G G' : Nat→List B} {e ty lo hi:Nat}
theorem NF.nil(hL:LG G e):NF Q h lo 0 G e ty lo hi:=⟨rfl,hL,jp,.inl rfl,λ_ h=>jb⟩
def NF.own(ho:NF Q h b n G e ty lo hi):zQ h (aT n b) n G e ty lo hi:=by
 obtain⟨g,L,h1,h2,-⟩:=ho;cases n with
 |zero=>exact .inl ⟨rfl,rfl⟩
 |succ n=>exact .inr ⟨jb,b,rfl,g,h1,jb⟩
def NF.hlp(ho:NF Q h b n G e ty lo hi)(he:0<e)(hk:∀j,j<n->(G j).all B.kn=true){p:Nat->Prop}(hp:∀b,lo<=b->b<hi->p b):aY p h e (aT n b) n G:=zQ.hlp ho.own ho.L he hk hp
def NF.mono(ho:NF Q h b n G e ty lo hi)(hQ:∀j,j<n->QK Q j)(hh:∀b,lo<=b->b<hi->h' b=h b){hi':Nat}(h2:hi<=hi'):NF Q h' b n G e ty lo hi':=by have h3:=ho.l1;have h4:=ho.l2;refine⟨?_,ho.L,ho.l1,jb,λj hj=>hQ j hj _ _ _ _ (ho.q j hj) (λx hx=>hh x hx.1 jb) λx hx=>hx⟩;rw[vW,ho.g];grind
def NF.el(ho:NF Q h b n G e ty lo hi)(hQ:∀j,j<n->QK Q j){j:Nat}(hj:j<n):Q (λx=>lo<=x/\x<hi) h j:=by have h4:=ho.l2;exact hQ j hj _ _ _ _ (ho.q j hj) (λ_ _=>rfl) λx hx=>⟨hx.1,jb⟩
def NF.push(ho:NF Q h b n G e ty lo hi)(hQ:∀j,j<=n->QK Q' j)(hQQ:∀j,j<n->∀p h,Q p h j->Q' p h j){hi1 nx n':Nat}{h1:Tr Bk}(hx:Q' (λb=>hi<=b/\b<hi1) h1 n)(hh:∀b,lo<=b->b<hi->h1 b=h b)(h2:hi<=hi1)(h3:hi1<=nx)(h4:nx<n')(h5:lo<=hi)
  {x:List B}(hb:h' nx=some ⟨bM n G++x,some (e,ty)⟩) (hgn:x=G' n) (hk:∀c,lo<=c->c<hi1->n=0\/c≠b->h' c=h1 c) (hg:∀i,i<n->G' i=G i) (hL:LG G' e):NF Q' h' nx (n+1) G' e ty lo n':=by
 obtain⟨g,-,l1,l2,q⟩:=ho
 refine⟨?_,hL,jb,jb,λj hj=>?_⟩
 .show h' nx=some _
  grind[Go.Proofs.Xe.l7,Go.Proofs.Xe.bZ,Go.Proofs.Xe.jk]
 .by_cases e:j=n
  .subst e
   exact hQ j jb _ _ _ _ hx (λx hx=>hk x jb hx.2 jb) λx hx=>⟨jb,jb⟩
  .exact hQ j jb _ _ _ _ (hQQ j jb _ _ (q j jb)) (λx hx=>by grind) λx hx=>⟨hx.1,jb⟩
end
def yG(p:Nat->Prop)(h:Tr Bk)(v:B)(l:gy):Prop:=
 ∃G:Nat->B,aY p h 4 v l.length (λi=>jQ (G i) (aV (ix l i)))/\alI v/\∀i,i<l.length->aY p h 4 (G i) (ix l i).length λj=>zN (ix (ix l i) j)
def aae(p:Nat->Prop)(h:Tr Bk)(v:B)(ms:List Nat):Prop:=aY p h 1 v ms.length λi=>[PW ms i]
structure yH(p:Nat->Prop)(h:Tr Bk)(rv pv:B)(e:dZ):Prop where
 rk:yG p h rv e.rk
 ps:∃Gm Gl:Nat->B,aY p h 2 pv e.ps.length (λi=>[Gm i,Gl i])/\∀i,i<e.ps.length->aae p h (Gm i) (ix e.ps i).1/\yG p h (Gl i) (ix e.ps i).2
section
variable {p q:Nat→Prop} {h h' : Tr Bk} {v rv pv:B} {l:gy} {ms:List Nat} {e:dZ}
def yG.lad(hl:yG p h v l):Ig h v l:=by obtain⟨G,h1,h2,h3⟩:=hl;exact⟨G,h1.hl,h2,λi hi=>(h3 i hi).hl⟩
def yG.keep(hl:yG p h v l)(hk:∀b,p b->h' b=h b)(hp:∀b,p b->q b):yG q h' v l:=by obtain⟨G,h1,h2,h3⟩:=hl;exact⟨G,h1.keep hk hp,h2,λi hi=>(h3 i hi).keep hk hp⟩
def yG.kn(hl:yG p h v l):v.kn=true:=hl.choose_spec.1.kn
def aae.hc(hl:aae p h v ms):HC h v ms.length (PW ms):=by
 by_cases h0:0<ms.length
 .obtain⟨b,o,c,e,hld⟩:=HL.one (aY.hl hl) h0;exact .inr ⟨b,o,c,e,hld⟩
 .rcases aY.hl hl with h1|⟨b,o,c,e,-⟩
  .exact .inl h1
  .exact .inr ⟨b,o,c,e,λi hi=>jb⟩
def yH.lay(hl:yH p h rv pv e):Jq h rv pv e:=by obtain⟨h1,Gm,Gl,h2,h3⟩:=hl;exact⟨h1.lad,Gm,Gl,h2.hl,λi hi=>⟨(h3 i hi).1.hc,(h3 i hi).2.lad⟩⟩
def yH.keep(hl:yH p h rv pv e)(hk:∀b,p b->h' b=h b)(hp:∀b,p b->q b):yH q h' rv pv e:=by obtain⟨h1,Gm,Gl,h2,h3⟩:=hl;exact⟨h1.keep hk hp,Gm,Gl,h2.keep hk hp,λi hi=>⟨aY.keep (h3 i hi).1 hk hp,(h3 i hi).2.keep hk hp⟩⟩
def yH.VD(hl:yH p h rv pv e):pv.kn=true:=by obtain⟨-,Gm,Gl,h2,-⟩:=hl;exact h2.kn
end
def Oo(h:Tr Bk)(bs:Nat)(t:dO):Prop:=xX t.length h bs=gF t.length (λj=>zN (ix t j)) 4 203
def Oo.hlp{p:Nat->Prop}{h:Tr Bk}{bs:Nat}{t:dO}(ho:Oo h bs t)(hp:t.length=0\/p bs):aY p h 4 (aT t.length bs) t.length λj=>zN (ix t j):=by
 unfold Oo at ho;generalize t.length=n at*;cases n with
 |zero=>exact .inl ⟨rfl,rfl⟩
 |succ n=>exact bf _ ho rfl (hp.resolve_left jb) (λ_=>rfl) jj λ_ _=>rfl
def Q8(t:dO)(p:Int×Rat):aV (t++[p])=aV t+p.2:=by
 induction t with
 |nil=>show p.2+0=0+p.2;grind
 |cons q t ih=>grind[aV]
structure kY(h:Tr Bk)(n:Nat)(k:Nat->Nat)(C:Nat->Nat->List B)(bs:Nat->Nat)(lo hi:Nat):Prop where
 r:∀i,i<n->h (bs i)=some ⟨bM (k i) (C i),none⟩/\lo<=bs i/\bs i<hi
 inj:∀i j,i<n->j<n->bs i=bs j->i=j
def xZ(k bs:Nat->Nat)(i:Nat):B:=.sl (bs i) 0 (k i) (.ex (k i))
section
variable {h h' : Tr Bk} {n lo hi:Nat} {k bs:Nat→Nat} {C:Nat→Nat→List B}
theorem kY.nil(h:Tr Bk)(k:Nat->Nat)(C:Nat->Nat->List B)(bs:Nat->Nat)(lo hi:Nat):kY h 0 k C bs lo hi:=⟨λi hi=>jb,λi j hi=>jb⟩
def kY.mono(ho:kY h n k C bs lo hi)(hh:∀b,lo<=b->b<hi->h' b=h b){lo' hi':Nat}(h1:lo'<=lo)(h2:hi<=hi'):kY h' n k C bs lo' hi':=
 ⟨λi hi=>by obtain⟨k1,k2,k3⟩:=ho.r i hi;grind,ho.inj⟩
def kY.mono'(ho:kY h n k C bs lo hi)(hh:∀i,i<n->h' (bs i)=h (bs i)){lo' hi':Nat}(h1:lo'<=lo)(h2:hi<=hi'):kY h' n k C bs lo' hi':=
 ⟨λi hi=>by obtain⟨k1,k2,k3⟩:=ho.r i hi;grind,ho.inj⟩
def kY.congr{C':Nat->Nat->List B}(ho:kY h n k C bs lo hi)(hc:∀i,i<n->∀c,c<k i->C i c=C' i c):kY h n k C' bs lo hi:=
 ⟨λi hi=>by obtain⟨k1,k2,k3⟩:=ho.r i hi;grind[bZ],ho.inj⟩
def kY.push(ho:kY h n k C bs lo hi){nb:Nat}{c:List B}(hb:h' nb=some ⟨c,none⟩)(hc:c=bM (k n) (C n))(hn:hi<=nb){hi':Nat}(h2:nb<hi')(hl:lo<=nb)(hh:∀b,lo<=b->b<hi->(∃i,i<n/\b=bs i)->h' b=h b):kY h' (n+1) k C (aN bs n nb) lo hi':=by
 refine⟨λi hi1=>?_,λi j hi1 hj e=>?_⟩
 .by_cases e:i=n
  .grind[aP]
  .obtain⟨k1,k2,k3⟩:=ho.r i jb;grind[aQ]
 .by_cases e1:i=n<;>by_cases e2:j=n
  .omega
  .exfalso;rw[e1,aP,aQ _ _ _ _ e2]at e;have:=(ho.r j jb).2.2;omega
  .exfalso;rw[e2,aP,aQ _ _ _ _ e1]at e;have:=(ho.r i jb).2.2;omega
  .rw[aQ _ _ _ _ e1,aQ _ _ _ _ e2]at e;exact ho.inj i j jb jb e
def rE(C:Nat->Nat->List B)(i c:Nat)(x:List B):Nat->Nat->List B:=λi' c'=>if i'=i/\c'=c then x else C i' c'
def kY.set(ho:kY h n k C bs lo hi){i c:Nat}{x l:List B}(hi1:i<n)(hl:l=bM (k i) (jk (C i) c x)):kY (hset h (bs i) ⟨l,none⟩) n k (rE C i c x) bs lo hi:=by
 refine⟨λj hj=>?_,ho.inj⟩;obtain⟨k1,k2,k3⟩:=ho.r j hj;by_cases e:j=i
 .grind[Go.Proofs.Xe.aA,Go.Proofs.Xe.bZ,Go.Proofs.Xe.jk,Go.Proofs.Xe.rE]
 .rw[au _ _ _ _ (λe2=>e (ho.inj j i hj hi1 e2)),k1];grind[Go.Proofs.Xe.bZ,Go.Proofs.Xe.rE]
def kY.hlp(ho:kY h n k C bs lo hi){p:Nat->Prop}{e:Nat}(hp:∀b,lo<=b->b<hi->p b)(he:0<e)(hC:∀i c,(C i c).length=e)(hk:∀i c,i<n->c<k i->(C i c).all B.kn=true){i:Nat}(hi1:i<n):aY p h e (xZ k bs i) (k i) (C i):=by obtain⟨k1,k2,k3⟩:=ho.r i hi1;exact bf _ k1 rfl (hp _ k2 k3) (hC i) he λc hc=>hk i c hi1 hc
end
def aeD(G:Nat->List B)(i:Nat)(a b:List B):jk (jk G i a) i b=jk G i b:=by grind[jk]
def XE{G:Nat->List B}{e i:Nat}{x:List B}(hG:∀j,(G j).length=e)(hx:x.length=e)(j:Nat):(jk G i x j).length=e:=by grind[jk]
def acg(G:Nat->List B)(i:Nat)(x:List B):jk G i x i=x:=ab rfl
def amG(t:dO):LG (λj=>zN (ix t j)) 4:=λ_=>rfl
def ah9{σ:St}(hW:WF σ){b n r:Nat}{G:Nat->List B}{o:Option (Nat×Nat)}(hb:σ.h b=some ⟨bM n G,o⟩)(hr:r<n)(hG:∀j,(G j).length=4)(hpl:plo o=true)(hrd:YE o=true){t:dO}{bs:Nat}(hGr:G r=jQ (aT t.length bs) (aV t))(hT:Oo σ.h bs t)(hne:t.length=0\/bs≠b)(hbs:t.length=0\/bs<σ.aj)(hl:t.length<=1000000)(k:Int)(q:Rat)(hs:Sz (aV t))(hq:Sz q):
  aC EN 93 [.c (.ptr b (r*4)),.c (.int .i64 k),.agg [.bool (rn q),.str (rs q),.str (rd q)]] σ λ_ σ'=>∃nx,σ.aj<=nx/\nx<σ'.aj/\σ'.h b=some ⟨bM n (jk G r (jQ (.sl nx 0 (t.length+1) .opn) (aV t+q))),o⟩/\σ'.h nx=some ⟨bM t.length (λj=>zN (ix t j))++zN (k,q),some (4,203)⟩/\aU [b,bs] σ σ':=by
 refine aO (nN.o _ _) nN.h ?_
 unfold nN
 dsimp only
 have hbl:=hW.lt hb
 have hFr:=Fr.refl hW
 have l0:ld σ.h b (r*4) 1 false=some (.c (aT t.length bs)):=by have:=yN (k:=0) (m:=1) false hG hr jj jj;rw[cE,hGr]at this;rw[ak hb,NC];dsimp only;rw[hrd,cC,this];unfold jQ zk;simp[KO]
 have w0:∀x:B,yj (bM n G) (r*4) [x]=some (bM n (jk G r (jQ x (aV t)))):=λx=>by have:=Ak (k:=0) (vs:=[x]) hG hr kc;rw[cE]at this;rw[this,hGr];rfl
 have r1:∀x:B,zk (bM n (jk G r (jQ x (aV t)))) (r*4+1) 3 true=some (.agg [.bool (rn (aV t)),.str (rs (aV t)),.str (rd (aV t))]):=λx=>by have:=yN (k:=1) (m:=3) (G:=jk G r (jQ x (aV t))) true (XE hG rfl) hr jj jj;rw[this,acg];rfl
 have w1:∀x a c d:B,yj (bM n (jk G r (jQ x (aV t)))) (r*4+1) [a,c,d]=some (bM n (jk G r [x,a,c,d])):=λx a c d=>by have:=Ak (k:=1) (vs:=[a,c,d]) (G:=jk G r (jQ x (aV t))) (XE hG rfl) hr kc;rw[this,acg,<-aeD G r (jQ x (aV t)) [x,a,c,d]];rfl
 have hLG:=amG t
 unfold Oo at hT
 simp(disch:=try exact jz) only[go_sem,z3,l0,aJ hb,w0,r1,w1,hpl,hrd,hb,hT]
 refine⟨σ.aj+1+1,jb,jb,?_,?_,?_⟩
 .rfl
 .rw[au _ _ _ _ jb,au _ _ _ _ jb,aA];rfl
 .repeat(first|assumption|exact aU.refl (by assumption)|exact aU.up (by assumption) kf|exact aU.up (aU.refl (by assumption)) kf|refine aU.set1 ?_ kg kf|refine aU.kH ?_ kg|refine aU.nM ?_ kg|refine aU.oC ?_ kf)
end Go.Proofs.Xe
namespace Go.Proofs.Ins
structure GL where
 e:Nat->dZ
 k:Nat->Nat
 h:Nat->Nat->Int
 ds:List (Rat×List fC)
def GL.dV(g:GL):List fC:=g.ds.flatMap (·.2)
def gq(g:GL)(x:Nat->Rat)(l:fC):Rat:=sZ (g.e l.1) (x l.1) l.2
def gs(g:GL)(x:Nat->Rat)(i:Nat)(l:fC):Rat:=if l.1=i then xK (g.e l.1) (x l.1) l.2 else 0
def FV(g:GL)(d:Rat×List fC):Int:=match d.2 with|[]=>-1|l::_=>g.h l.1 l.2
def dG(g:GL)(x:Nat->Rat)(j:Nat)(d:Rat×List fC):Rat:=(if FV g d=(j:Int)then jP d.1 (aI d.2 (gq g x))else 0)+nX d.1 (gq g x) 0 d.2 j
def dM(g:GL)(x:Nat->Rat)(j i:Nat)(d:Rat×List fC):Rat:=
 (if FV g d=(j:Int)then aI d.2 (gs g x i)-nV d.1 (aI d.2 (gq g x)) (aI d.2 (gs g x i))else 0)+ji d.1 (gq g x) (gs g x i) 0 0 0 d.2 j
def uG(g:GL)(j i c:Nat):Bool:=!(g.dV.contains (i,c))&&g.h i c==(j:Int)
def gG(n:Nat)(g:GL)(x:Nat->Rat)(j:Nat):Rat:=aB n (λi=>aB (g.k i) λc=>if uG g j i c then gq g x (i,c)else 0)+aI g.ds (dG g x j)
def gM(n:Nat)(g:GL)(x:Nat->Rat)(j i:Nat):Rat:=aB (g.k i) (λc=>if uG g j i c then gs g x i (i,c)else 0)+aI g.ds (dM g x j i)
structure Jr(n:Nat)(g:GL):Prop where
 nn:∀i,i<n->Bl (g.e i)
 inn:∀i,i<n->InE (g.k i) (g.e i)
 hold:∀i c,i<n->c<g.k i->g.h i c=-1\/0<=g.h i c/\g.h i c<n
 dV:∀l∈g.dV,l.1<n/\l.2<g.k l.1
 nodup:g.dV.Nodup
 pos:∀d∈g.ds,0<=d.1
section
variable {n:Nat} {g:GL}
def aeE(hg:Jr n g){d:Rat×List fC}(hd:d∈g.ds):FV g d=-1\/0<=FV g d/\FV g d<n:=by
 unfold FV;split
 .omega
 .next l t e=>
  have h1:=hg.dV l (by grind[GL.dV]);exact hg.hold _ _ h1.1 h1.2
def tu(hg:Jr n g){d:Rat×List fC}(hd:d∈g.ds){l:fC}(hl:l∈d.2):l.1<n:=
 (hg.dV l (cF.mpr ⟨d,hd,hl⟩)).1
def aro(hg:Jr n g){d:Rat×List fC}(hd:d∈g.ds)(v:Rat):aB n (λj=>if FV g d=(j:Int)then v else 0)=if FV g d=-1 then 0 else v:=by
 rcases aeE hg hd with h|⟨h1,h2⟩
 .grind[bC]
 .rw[ae jb,iP (k:=(FV g d).toNat) jb λj _ hne=>ae jb,ab jb]
def amH(hg:Jr n g){i c:Nat}(hi:i<n)(hc:c<g.k i)(v:Rat):aB n (λj=>if uG g j i c then v else 0)=if(i,c)∈g.dV\/g.h i c=-1 then 0 else v:=by
 by_cases hl:(i,c)∈g.dV
 .grind[bC,uG]
 .rcases hg.hold i c hi hc with h|⟨h1,h2⟩
  .grind[bC,uG]
  .rw[ae kd,iP (k:=(g.h i c).toNat) jb λj _ hne=>?_,ab ?_]
   .grind[uG]
   grind[uG]
theorem Q9(hg:Jr n g){x:Nat->Rat}(hx:Nn n x){l:fC}(hl:l.1<n):0<=gq g x l:=FU (hg.nn _ hl) (hx _ hl) _
def iq(n:Nat)(q:fC->Rat)(l:fC):Rat:=if l.1<n then q l else 0
theorem Ll{W:Rat}{q:fC->Rat}(j:Nat):∀(t:List fC) (Q:Rat),(∀l∈t,l.1<n)->nX W (iq n q) Q t j=nX W q Q t j
 |[],_,_=>rfl
 |l::t,Q,h=>by have e:iq n q l=q l:=ab (h l kc);unfold nX;rw[e,Ll j t _ λu hu=>h u (by simp[hu])]
theorem UF{W:Rat}{q r:fC->Rat}(j:Nat):∀(t:List fC) (Q R B:Rat),(∀l∈t,l.1<n)->ji W (iq n q) (iq n r) Q R B t j=ji W q r Q R B t j
 |[],_,_,_,_=>rfl
 |l::t,Q,R,B,h=>by have e:iq n q l=q l:=ab (h l kc);have e2:iq n r l=r l:=ab (h l kc);unfold ji;rw[e,e2,UF j t _ _ _ λu hu=>h u (by simp[hu])]
def ach(hg:Jr n g){x y:Nat->Rat}(hx:Nn n x)(hxy:Le n x y)(j:Nat):gG n g x j<=gG n g y j:=by
 unfold gG;have h1:∀l:fC,l.1<n->gq g x l<=gq g y l:=λl hl=>N9 (hg.nn _ hl) (hx _ hl) (hxy _ hl) _;have h2:aB n (λi=>aB (g.k i) λc=>if uG g j i c then gq g x (i,c)else 0)<=aB n λi=>aB (g.k i) λc=>if uG g j i c then gq g y (i,c)else 0:=
  oV λi hi=>oV λc _=>by grind
 have h3:aI g.ds (dG g x j)<=aI g.ds (dG g y j):=vZ λd hd=>by
  have hl:=λl hl=>tu hg hd (l:=l) hl;have a:aI d.2 (gq g x)<=aI d.2 (gq g y):=vZ λl hl=>h1 l (tu hg hd hl);have b:=Oa (W:=d.1) (q:=iq n (gq g x)) (q':=iq n (gq g y)) (λl=>by
   grind[iq,Q9]) (λl=>by
   grind[iq]) j d.2 0 0 be
  grind[Ll,jP,dG]
 grind
def Oq(gf:fC->Rat):∀L:List fC,L.Nodup->(∀l∈L,l.1<n/\l.2<g.k l.1)->aB n (λi=>aB (g.k i) λc=>if(i,c)∈L then gf (i,c)else 0)=aI L gf
 |[],_,_=>bC λi _=>bC λc _=>by simp
 |p::t,hn,hl=>by
  rw[iN]at hn;have hp:=hl p kc;have e:aB n (λi=>aB (g.k i) λc=>if(i,c)∈p::t then gf (i,c)else 0)=aB n λi=>(if i=p.1 then gf p else 0)+aB (g.k i) λc=>if(i,c)∈t then gf (i,c)else 0:=aK λi _=>by
   have e2:(if i=p.1 then gf p else 0)=aB (g.k i) λc=>if i=p.1/\c=p.2 then gf p else 0:=by grind[iP,bC]
   rw[e2,<-bF];grind
  have hd:aB n (λi=>if i=p.1 then gf p else 0)=gf p:=by grind[iP]
  rw[e,bF,hd,Oq gf t hn.2 λl hl'=>hl l (by simp[hl'])];rfl
def Ot{α:Type}(l:List α)(f:α->List fC)(gf:fC->Rat):aI (l.flatMap f) gf=aI l λa=>aI (f a) gf:=by
 induction l with
 |nil=>rfl
 |cons a l ih=>
  rw[ii]
  have:∀(u v:List fC),aI (u++v) gf=aI u gf+aI v gf:=λu v=>by
   induction u with
   |nil=>grind[aI]
   |cons x u ih=>
    grind[aI]
  rw[this,ih];rfl
def Uw(g:GL)(x:Nat->Rat)(i c:Nat):Rat:=if(i,c)∉g.dV/\g.h i c=-1 then gq g x (i,c)else 0
def aeF(g:GL)(x:Nat->Rat)(d:Rat×List fC):Rat:=if FV g d=-1 then jP d.1 (aI d.2 (gq g x))else 0
def aia(hg:Jr n g)(x:Nat->Rat)(hx:Nn n x):aB n (λi=>x i-gG n g x i)=aB n (λi=>x i-aB (g.k i) (sZ (g.e i) (x i)))+aB n (λi=>aB (g.k i) (Uw g x i))+aI g.ds (aeF g x):=by
 have a1:aB n (λj=>aB n λi=>aB (g.k i) λc=>if uG g j i c then gq g x (i,c)else 0)=aB n λi=>aB (g.k i) λc=>if(i,c)∈g.dV\/g.h i c=-1 then 0 else gq g x (i,c):=by rw[zK];refine aK λi hi=>?_;simp_all[zK,aK,amH]
 have a2:aB n (λj=>aI g.ds (dG g x j))=aI g.ds λd=>(if FV g d=-1 then 0 else jP d.1 (aI d.2 (gq g x)))+nC (aI d.2 (gq g x)-d.1):=by
  rw[ql g.ds λd j=>dG g x j d];refine dH λd hd=>?_;have e:aB n (λj=>dG g x j d)=aB n (λj=>if FV g d=(j:Int)then jP d.1 (aI d.2 (gq g x))else 0)+aB n λj=>nX d.1 (gq g x) 0 d.2 j:=by rw[<-bF];rfl
  rw[e,aro hg hd,ab1 d.2 0 λl hl=>tu hg hd hl];have h0:=hg.pos d hd;have e2:nC (0-d.1)=0:=by unfold nC;split<;>grind
  grind
 have a3:aB n (λi=>aB (g.k i) λc=>if(i,c)∈g.dV then gq g x (i,c)else 0)=aI g.ds λd=>aI d.2 (gq g x):=by rw[Oq (gq g x) g.dV hg.nodup hg.dV];exact Ot _ _ _
 have a4:aB n (λi=>aB (g.k i) λc=>if(i,c)∈g.dV\/g.h i c=-1 then 0 else gq g x (i,c))=aB n (λi=>aB (g.k i) (sZ (g.e i) (x i)))-aB n (λi=>aB (g.k i) λc=>if(i,c)∈g.dV then gq g x (i,c)else 0)-aB n (λi=>aB (g.k i) (Uw g x i)):=by
  rw[<-fA,<-fA];refine aK λi _=>?_;rw[<-fA,<-fA];refine aK λc _=>?_;have e:sZ (g.e i) (x i) c=gq g x (i,c):=rfl;rw[e];unfold Uw;by_cases h1:(i,c)∈g.dV
  .rw[ab (.inl h1),ab h1,ae λh=>h.1 h1];grind
  .by_cases h2:g.h i c=-1
   .rw[ab (.inr h2),ae h1,ab ⟨h1,h2⟩];grind
   .rw[ae (by simp[h1,h2]),ae h1,ae λh=>h2 h.2];grind
 have a5:aI g.ds (λd=>(if FV g d=-1 then 0 else jP d.1 (aI d.2 (gq g x)))+nC (aI d.2 (gq g x)-d.1))=aI g.ds (λd=>aI d.2 (gq g x))-aI g.ds (aeF g x):=by
  rw[<-Ic];refine dH λd hd=>?_;unfold aeF;have e:jP d.1 (aI d.2 (gq g x))+nC (aI d.2 (gq g x)-d.1)=aI d.2 (gq g x):=by unfold jP nC;split<;>split<;>grind
  split<;>grind
 have a6:aB n (λi=>x i-gG n g x i)=aB n x-(aB n (λj=>aB n λi=>aB (g.k i) λc=>if uG g j i c then gq g x (i,c)else 0)+aB n λj=>aI g.ds (dG g x j)):=by rw[<-bF,<-fA];rfl
 grind[fA]
def aci(hg:Jr n g){x y:Nat->Rat}(hx:Nn n x)(hxy:Le n x y):aB n (λi=>x i-gG n g x i)<=aB n (λi=>y i-gG n g y i):=by
 rw[aia hg x hx,aia hg y (hx.le hxy)];have h0:∀l:fC,l.1<n->gq g x l<=gq g y l:=λl hl=>N9 (hg.nn _ hl) (hx _ hl) (hxy _ hl) _;have h1:aB n (λi=>x i-aB (g.k i) (sZ (g.e i) (x i)))<=aB n (λi=>y i-aB (g.k i) (sZ (g.e i) (y i))):=
  oV λi hi=>Xx (hg.nn i hi) (hg.inn i hi) (hx i hi) (hxy i hi)
 have h2:aB n (λi=>aB (g.k i) (Uw g x i))<=aB n (λi=>aB (g.k i) (Uw g y i)):=oV λi hi=>oV λc _=>by grind[Uw]
 have h3:aI g.ds (aeF g x)<=aI g.ds (aeF g y):=vZ λd hd=>by have a:aI d.2 (gq g x)<=aI d.2 (gq g y):=vZ λl hl=>h0 l (tu hg hd hl);grind[aeF,jP]
 grind
def gr(g:GL)(x d:Nat->Rat)(l:fC):Rat:=xK (g.e l.1) (x l.1) l.2*d l.1
structure Ok(n:Nat)(g:GL)(x d:Nat->Rat)(s:Rat):Prop where
 e:∀i,i<n->∀c,c<g.k i->sZ (g.e i) (x i+s*d i) c=sZ (g.e i) (x i) c+s*d i*xK (g.e i) (x i) c
 d:∀d'∈g.ds,okD d'.1 (gq g x) (gr g x d) s 0 0 d'.2
def aib{x d:Nat->Rat}{l:fC}(hl:l.1<n):aB n (λi=>gs g x i l*d i)=gr g x d l:=by grind[gs,gr,iP]
def auU(hg:Jr n g){x:Nat->Rat}(hx:Nn n x){l:fC}(hl:l.1<n)(i:Nat):0<=gs g x i l:=by
 unfold gs;split
 .exact qY (hg.nn _ hl) (hx _ hl) _
 rfl
def UG{W:Rat}{q r:fC->Rat}{s:Rat}:∀(t:List fC) (Q R:Rat),(∀l∈t,l.1<n)->(okD W (iq n q) (iq n r) s Q R t↔okD W q r s Q R t)
 |[],_,_,_=>Iff.rfl
 |l::t,Q,R,h=>by have e:iq n q l=q l:=ab (h l kc);have e2:iq n r l=r l:=ab (h l kc);unfold okD;rw[e,e2,UG t _ _ λu hu=>h u (by simp[hu])]
def aic(hg:Jr n g){x d:Nat->Rat}(hx:Nn n x)(hd:Nn n d){s:Rat}(h0:0<=s)(ho:Ok n g x d s){j:Nat}(hj:j<n):gG n g (aZ x d s) j=gG n g x j+s*mv n (gM n g x) d j:=by
 have hq:∀l:fC,l.1<n->l.2<g.k l.1->gq g (aZ x d s) l=gq g x l+s*gr g x d l:=λl h1 h2=>by have:=ho.e l.1 h1 l.2 h2;grind[gq,gr,aZ]
 have a1:aB n (λi=>aB (g.k i) λc=>if uG g j i c then gq g (aZ x d s) (i,c)else 0)=aB n (λi=>aB (g.k i) λc=>if uG g j i c then gq g x (i,c)else 0)+s*aB n λi=>aB (g.k i) (λc=>if uG g j i c then gs g x i (i,c)else 0)*d i:=by rw[<-gu,<-bF];refine aK λi hi=>?_;rw[<-qj,<-gu,<-bF];grind[Go.Proofs.Ins.aK,Go.Proofs.Ins.gs,Go.Proofs.Ins.gr]
 have a2:∀d'∈g.ds,dG g (aZ x d s) j d'=dG g x j d'+s*aB n λi=>dM g x j i d'*d i:=λd' hd'=>by
  have hl:=λl hl=>tu hg hd' (l:=l) hl;have hl2:∀l∈d'.2,l.2<g.k l.1:=λl hl=>(hg.dV l (cF.mpr ⟨d',hd',hl⟩)).2;have hok:=ho.d d' hd';have hcq:∀l,0<=iq n (gq g x) l:=λl=>by
   unfold iq;split
   .next h=>exact Q9 hg hx h
   .exact be
  have hcr:∀l,0<=iq n (gr g x d) l:=λl=>by
   unfold iq;split
   .next h=>exact cn (qY (hg.nn _ h) (hx _ h) _) (hd _ h)
   .exact be
  have hq0:(0:Rat)<d'.1->s*0<=d'.1-0:=λh=>by grind
  have b1:=abV (W:=d'.1) h0 hcr j d'.2 0 0 be hq0 ((UG d'.2 0 0 hl).mpr hok);have b2:nX d'.1 (λl=>iq n (gq g x) l+s*iq n (gr g x d) l) (0+s*0) d'.2 j=nX d'.1 (gq g (aZ x d s)) 0 d'.2 j:=by
   have z:(0:Rat)+s*0=0:=by grind
   rw[z];clear b1 hok hq0;have:∀(t:List fC) (Q:Rat),(∀l∈t,l.1<n/\l.2<g.k l.1)->nX d'.1 (λl=>iq n (gq g x) l+s*iq n (gr g x d) l) Q t j=nX d'.1 (gq g (aZ x d s)) Q t j:=by
    intro t;induction t with
    |nil=>intro Q _;rfl
    |cons l t ih=>
     intro Q h
     have h1:=h l kc
     have e:iq n (gq g x) l+s*iq n (gr g x d) l=gq g (aZ x d s) l:=by rw[hq l h1.1 h1.2];unfold iq;rw[ab h1.1,ab h1.1]
     unfold nX
     rw[e,ih _ λu hu=>h u (by simp[hu])]
   exact this d'.2 0 λl h=>⟨hl l h,hl2 l h⟩
  rw[b2,Ll j _ _ hl,UF j _ _ _ _ hl]at b1;have z0:nV d'.1 0 0=0:=by unfold nV;split<;>rfl
  rw[z0]at b1;have b3:ji d'.1 (gq g x) (gr g x d) 0 0 0 d'.2 j=aB n λi=>ji d'.1 (gq g x) (gs g x i) 0 0 0 d'.2 j*d i:=by
   have c:=abZ (n:=n) (W:=d'.1) (q:=gq g x) d (gs g x) j d'.2 0 (λ_=>0) (λ_=>0);have z:aB n (λi=>0*d i)=0:=bC λi _=>by rw[Rat.zero_mul]
   rw[z]at c;rw[<-c];have:∀(t:List fC) (Q R B:Rat),(∀l∈t,l.1<n)->ji d'.1 (gq g x) (gr g x d) Q R B t j=ji d'.1 (gq g x) (λl=>aB n λi=>gs g x i l*d i) Q R B t j:=by
    intro t;induction t with
    |nil=>intro Q R B _;rfl
    |cons l t ih=>
     intro Q R B h
     unfold ji
     rw[aib (h l kc),ih _ _ _ λu hu=>h u (by simp[hu])]
   exact this d'.2 0 0 0 hl
  have b4:aI d'.2 (gq g (aZ x d s))=aI d'.2 (gq g x)+s*aI d'.2 (gr g x d):=by rw[<-xJ,<-zL];exact dH λl h=>hq l (hl l h) (hl2 l h)
  have b5:aI d'.2 (gr g x d)=aB n λi=>aI d'.2 (gs g x i)*d i:=by
   have:aB n (λi=>aI d'.2 (gs g x i)*d i)=aB n λi=>aI d'.2 λl=>gs g x i l*d i:=aK λi _=>by rw[gj,<-xJ];exact dH λl _=>gj _ _
   rw[this,ql d'.2 λl i=>gs g x i l*d i];exact dH λl h=>(aib (hl l h)).symm
  have b6:0<=aI d'.2 (gr g x d):=ni λl h=>cn (qY (hg.nn _ (hl l h)) (hx _ (hl l h)) _) (hd _ (hl l h));have b7:=abW d'.2 0 0 hok (λh=>by grind);rw[gl,gl]at b7;have b8:=amx (W:=d'.1) h0 b6 b7;have b9:aB n (λi=>(aI d'.2 (gs g x i)-nV d'.1 (aI d'.2 (gq g x)) (aI d'.2 (gs g x i)))*d i)=aI d'.2 (gr g x d)-nV d'.1 (aI d'.2 (gq g x)) (aI d'.2 (gr g x d)):=by rw[b5,abY,<-fA];exact aK λi _=>by grind
  unfold dG dM;rw[b1,b3,b4,b8];by_cases e:FV g d'=(j:Int)
  .simp only[ab e];have:aB n (λi=>(aI d'.2 (gs g x i)-nV d'.1 (aI d'.2 (gq g x)) (aI d'.2 (gs g x i))+ji d'.1 (gq g x) (gs g x i) 0 0 0 d'.2 j)*d i)=aB n (λi=>(aI d'.2 (gs g x i)-nV d'.1 (aI d'.2 (gq g x)) (aI d'.2 (gs g x i)))*d i)+aB n λi=>ji d'.1 (gq g x) (gs g x i) 0 0 0 d'.2 j*d i:=by rw[<-bF];exact aK λi _=>by rw[Rat.add_mul]
   rw[this,b9];grind
  .simp only[ae e];have:aB n (λi=>(0+ji d'.1 (gq g x) (gs g x i) 0 0 0 d'.2 j)*d i)=aB n λi=>ji d'.1 (gq g x) (gs g x i) 0 0 0 d'.2 j*d i:=aK λi _=>by rw[gl]
   rw[this];grind
 have a3:aI g.ds (dG g (aZ x d s) j)=aI g.ds (dG g x j)+s*aB n λi=>aI g.ds (dM g x j i)*d i:=by rw[dH a2,zL,xJ];congr 2;rw[<-ql g.ds λd' i=>dM g x j i d'*d i];refine aK λi _=>?_;rw[gj,<-xJ];exact dH λ_ _=>gj _ _
 have a4:mv n (gM n g x) d j=aB n (λi=>aB (g.k i) (λc=>if uG g j i c then gs g x i (i,c)else 0)*d i)+aB n λi=>aI g.ds (dM g x j i)*d i:=by rw[<-bF];exact aK λi _=>by unfold gM;rw[Rat.add_mul]
 grind[gG]
end
def lX(a:gZ):List Nat:=(vY a).map Int.toNat
def EC(cs:List C5)(r:Nat):Nat->dO
 |0=>[]
 |k+1=>EC cs r k++if(ix cs k).r=(r:Int)then [((k:Int),(ix cs k).a.q)]else []
def rkL(cs:List C5)(k:Nat):gy:=(List.range 8).map λr=>EC cs r k
def lpS(s:(Nat->Rat)×dO)(x:Aq):(Nat->Rat)×dO:=
 if x.k=-1 then(s.1,s.2++[((-1:Int),x.a.q)])
 else((λi=>if i=x.k.toNat then s.1 i-(if x.b=true then jP (s.1 x.k.toNat) x.a.q else s.1 x.k.toNat)else s.1 i),s.2++[(x.k,if x.b=true then jP (s.1 x.k.toNat) x.a.q else s.1 x.k.toNat)])
def ltS(s:(Nat->Rat)×gy)(t:Kr):(Nat->Rat)×gy:=((t.foldl lpS (s.1,[])).1,s.2++[(t.foldl lpS (s.1,[])).2])
def lsA(cs:List C5)(a:gZ):(Nat->Rat)×gy:=a.foldl ltS ((λi:Nat=>(ix cs i).a.q),[])
def yU(ms:List Nat)(f:Nat->Rat):dO:=ms.map λi:Nat=>((i:Int),f i)
def rX(cs:List C5)(a:gZ):List Nat×gy:=(lX a,(lsA cs a).2++[yU (lX a) (lsA cs a).1])
def dF(e:BD):dZ:=⟨rkL e.c e.c.length,e.a.map (rX e.c)⟩
structure PX(P:Rat->Prop):Prop where
 min:∀a b,P a->P b->P (jP a b)
 sub:∀a b,P a->P b->P (a-jP a b)
 zero:P 0
def PY(P:Rat->Prop)(n:Nat)(x:Aq):Prop:=(x.k=-1\/0<=x.k/\x.k<n)/\((x.k=-1\/x.b=true)->P x.a.q)
def zU(P:Rat->Prop)(n:Nat)(t:dO):Prop:=∀p∈t,(p.1=-1\/0<=p.1/\p.1<n)/\P p.2
section
variable {P:Rat→Prop} {n:Nat}
def zU.snoc{t:dO}(h:zU P n t){p:Int×Rat}(h1:p.1=-1\/0<=p.1/\p.1<n)(h2:P p.2):zU P n (t++[p]):=λq hq=>by
 rcases cf.mp hq with hq|hq
 .exact h q hq
 grind
def auV(hP:PX P){s:(Nat->Rat)×dO}(h1:∀i,P (s.1 i))(h2:zU P n s.2){x:Aq}(hx:PY P n x):(∀i,P ((lpS s x).1 i))/\zU P n (lpS s x).2:=by
 unfold lpS;by_cases e:x.k=-1
 .rw[ab e];exact⟨h1,h2.snoc (.inl rfl) (hx.2 (.inl e))⟩
 .rw[ae e];dsimp only;have self:P (s.1 x.k.toNat-s.1 x.k.toNat):=by rw[show s.1 x.k.toNat-s.1 x.k.toNat=0 by grind];exact hP.zero
  refine⟨λi=>?_,h2.snoc hx.1 ?_⟩
  .split
   .next e2=>
    rw[e2];split
    .next hb=>exact hP.sub _ _ (h1 _) (hx.2 (.inr hb))
    omega
   grind
  .dsimp only;split
   .next hb=>exact hP.min _ _ (h1 _) (hx.2 (.inr hb))
   grind
def aaf(hP:PX P):∀(t:Kr){s:(Nat->Rat)×dO},(∀i,P (s.1 i))->zU P n s.2->(∀x∈t,PY P n x)->(∀i,P ((t.foldl lpS s).1 i))/\zU P n (t.foldl lpS s).2
 |[],_,h1,h2,_=>⟨h1,h2⟩
 |x::t,s,h1,h2,h=>by obtain⟨h3,h4⟩:=auV hP h1 h2 (h x kc);exact aaf hP t h3 h4 λy hy=>h y (by simp[hy])
def wz(P:Rat->Prop)(n:Nat)(l:gy):Prop:=∀t∈l,zU P n t
def wz.snoc{l:gy}(h:wz P n l){t:dO}(ht:zU P n t):wz P n (l++[t]):=λu hu=>by
 rcases cf.mp hu with hu|hu
 .exact h u hu
 grind
def aag(hP:PX P):∀(a:gZ){s:(Nat->Rat)×gy},(∀i,P (s.1 i))->wz P n s.2->(∀t∈a,∀x∈t,PY P n x)->(∀i,P ((a.foldl ltS s).1 i))/\wz P n (a.foldl ltS s).2
 |[],_,h1,h2,_=>⟨h1,h2⟩
 |t::a,s,h1,h2,h=>by obtain⟨h3,h4⟩:=aaf hP t (s:=(s.1,[])) h1 (λ_ h=>by cases h) (h t kc);exact aag hP a (s:=ltS s t) h3 (h2.snoc h4) λu hu=>h u (by simp[hu])
def aie(hP:PX P){cs:List C5}{a:gZ}(hc:∀i,P (ix cs i).a.q)(ha:∀t∈a,∀x∈t,PY P n x):(∀i,P ((lsA cs a).1 i))/\wz P n (lsA cs a).2:=aag hP a hc (λ_ h=>by cases h) ha
def uf{a:gZ}(ha:∀t∈a,∀x∈t,x.k=-1\/0<=x.k/\x.k<n):∀c∈vY a,0<=c/\c<n:=λc hc=>by obtain⟨h1,h2⟩:=qN.mp hc;obtain⟨t,ht,hm⟩:=gc.mp h2;obtain⟨x,hx,e⟩:=gc.mp hm;grind
def xO{a:gZ}(ha:∀t∈a,∀x∈t,x.k=-1\/0<=x.k/\x.k<n){i:Nat}:i∈lX a↔PN a (i:Int)=true:=by
 unfold lX;rw[cM];constructor
 .rintro⟨c,hc,rfl⟩;have h1:=uf ha c hc;rw[fu h1.1];exact(qN.mp hc).2
 .intro h;exact⟨i,qN.mpr ⟨jb,h⟩,by simp⟩
def aah{a:gZ}(ha:∀t∈a,∀x∈t,x.k=-1\/0<=x.k/\x.k<n):(lX a).Nodup:=by unfold lX;rw[iA,List.pairwise_map];refine List.Pairwise.imp_of_mem (λ{x y} hx hy h=>?_) (aby a);have:=uf ha x hx;omega
def acj(hP:PX P){cs:List C5}{a:gZ}(hc:∀i,P (ix cs i).a.q)(ha:∀t∈a,∀x∈t,PY P n x):wz P n (rX cs a).2:=by obtain⟨h1,h2⟩:=aie hP hc ha;refine h2.snoc λp hp=>?_;unfold yU at hp;obtain⟨i,hi,rfl⟩:=cM.mp hp;have:=(xO λt ht x hx=>(ha t ht x hx).1).mp hi;have h3:=uf (a:=a) (λt ht x hx=>(ha t ht x hx).1) i (qN.mpr ⟨jb,this⟩);grind
def Ou{cs:List C5}(hc:∀i,i<cs.length->P (ix cs i).a.q)(r:Nat):∀k,k<=cs.length->∀p∈EC cs r k,(0<=p.1/\p.1<cs.length)/\P p.2
 |0,_,p,hp=>by cases hp
 |k+1,hk,p,hp=>by
  unfold EC at hp;rcases cf.mp hp with hp|hp
  .exact Ou hc r k jb p hp
  grind
end
end Go.Proofs.Ins
