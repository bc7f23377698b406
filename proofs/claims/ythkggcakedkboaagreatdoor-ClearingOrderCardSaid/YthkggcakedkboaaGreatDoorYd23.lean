import Derived.Test.YthkggcakedkboaaGreatDoorYd22
set_option linter.all false
set_option maxRecDepth 100000
namespace Go.Proofs.Xe
open Go.RowKit Go.Proofs.Ins
def ab6{E:Env}{a b:AC}{tm:Tr V}{σ:St}{Q:AX->Tr V->St->Prop}(M:Tr V->St->Prop)(h1:bH E a tm σ λe tm σ=>e=.normal/\M tm σ)(h2:∀tm' σ',M tm' σ'->bH E b tm' σ' Q):bH E (.seq a b) tm σ Q:=
 run_seq (h1.mono λe tm σ' ⟨he,hm⟩=>by subst he;exact h2 _ _ hm)
structure Kq{α:Type}[Inhabited α](h:Tr Bk)(n:Nat)(c:α->List B)(e ty:Nat)(L:Nat->List α)(bs:Nat->Nat)(lo hi:Nat):Prop where
 blk:∀i,i<n->0<(L i).length->h (bs i)=some ⟨bD (L i).length (λk=>c (ix (L i) k)),some (e,ty)⟩/\lo<=bs i/\bs i<hi
 inj:∀i j,i<n->j<n->0<(L i).length->0<(L j).length->bs i=bs j->i=j
section
variable {α:Type} [Inhabited α] {h h' : Tr Bk} {n e ty lo hi:Nat} {c:α→List B} {L:Nat→List α} {bs:Nat→Nat}
theorem Kq.nil(h:Tr Bk)(n:Nat)(c:α->List B)(e ty:Nat)(bs:Nat->Nat)(lo hi:Nat):Kq h n c e ty (λ_=>[]) bs lo hi:=⟨λi _ h=>by simp at h,λi j _ _ h=>by simp at h⟩
def Kq.mono(hf:Kq h n c e ty L bs lo hi)(hh:∀b,lo<=b->b<hi->h' b=h b){hi':Nat}(h2:hi<=hi'):Kq h' n c e ty L bs lo hi':=
 ⟨λi hi hp=>by obtain⟨k1,k2,k3⟩:=hf.blk i hi hp;exact⟨by rw[hh _ k2 k3];exact k1,k2,jb⟩,hf.inj⟩
theorem gy(l:List α)(x:α){k:Nat}(h:k<l.length):ix (l++[x]) k=ix l k:=by rw[QB,ab h]
theorem gB(l:List α)(x:α):ix (l++[x]) l.length=x:=by rw[QB,ae jb,ab rfl]
def Kq.push(hf:Kq h n c e ty L bs lo hi){i nx:Nat}(hi':i<n)(x:α){cells:List B}(hc:cells=bD (L i).length (λk=>c (ix (L i) k))++c x)(h1:h' nx=some ⟨cells,some (e,ty)⟩)
  (hh:∀j,j<n->j≠i->0<(L j).length->h' (bs j)=h (bs j)) (hlo:lo<=nx) (hnx:hi<=nx){hi2:Nat}(h2:nx<hi2):Kq h' n c e ty (aO L i (L i++[x])) (aO bs i nx) lo hi2:=by
 refine⟨λj hj hp=>?_,λa b ha hb pa pb e=>?_⟩
 .by_cases e:j=i
  .subst e
   rw[aN,aN,az,bY]
   refine⟨?_,hlo,h2⟩
   rw[h1,hc,jI]
   congr 2
   refine bF λk hk=>?_
   unfold iT
   split
   .next e=>rw[e,gB]
   .rw[gy _ _ jb]
  .rw[aP _ _ _ _ e]at hp⊢
   rw[aP _ _ _ _ e]
   obtain⟨k1,k2,k3⟩:=hf.blk j hj hp
   exact⟨by rw[hh j hj e hp];exact k1,k2,jb⟩
 .by_cases e1:a=i
  .by_cases e2:b=i
   .rw[e1,e2]
   .rw[e1,aN,aP _ _ _ _ e2]at e
    rw[aP _ _ _ _ e2]at pb
    have:=(hf.blk b hb pb).2.2
    omega
  .by_cases e2:b=i
   .rw[e2,aN,aP _ _ _ _ e1]at e
    rw[aP _ _ _ _ e1]at pa
    have:=(hf.blk a ha pa).2.2
    omega
   .rw[aP _ _ _ _ e1]at pa
    rw[aP _ _ _ _ e2]at pb
    rw[aP _ _ _ _ e1,aP _ _ _ _ e2]at e
    exact hf.inj a b ha hb pa pb e
def Kq.hlp(hf:Kq h n c e ty L bs lo hi){p:Nat->Prop}(hp:∀b,lo<=b->b<hi->p b)(hc:∀x,(c x).length=e)(he:0<e)(hk:∀x,(c x).all B.kn=true){i:Nat}(hi':i<n):bf p h e (lu (L i) (bs i)) (L i).length λk=>c (ix (L i) k):=by
 by_cases h0:(L i).length=0
 .exact .inl ⟨h0,by unfold lu;rw[ab h0]⟩
 .obtain⟨k1,k2,k3⟩:=hf.blk i hi' jb;rw[iW jb];exact bC _ k1 (by rw[CB _ _ jb]) (hp _ k2 k3) (λ_=>hc _) he λ_ _=>hk _
end
def jd.lt{σ:St}(hW:WF σ){p:Nat->Prop}{v:B}{l:List gZ}(hl:jd p σ.h v l):jd (Lt σ.aj) σ.h v l:=by obtain⟨T,k1,k2⟩:=hl;refine⟨T,k1.lt hW,λj hj=>?_⟩;obtain⟨U,m1,m2⟩:=k2 j hj;exact⟨U,m1.lt hW,λl hl=>(m2 l hl).lt hW⟩
theorem jd.fr{σ σ':St}(hW:WF σ)(hf:Fr σ σ'){p:Nat->Prop}{v:B}{l:List gZ}(hl:jd p σ.h v l):jd (Lt σ.aj) σ'.h v l:=(hl.lt hW).keep hf.lt λ_ h=>h
def ahZ(al:List gZ)(c:Int):Prop:=∀j,j<al.length->∀t,t<(ix al j).length->∀p,p<(ix (ix al j) t).length->(ix (ix (ix al j) t) p).k≠c
def aq8(al:List gZ):Prop:=al.length<=1000/\∀j,j<al.length->(ix al j).length<=1000/\∀t,t<(ix al j).length->(ix (ix al j) t).length<=1000
def aq9{σ:St}(hW:WF σ){p:Nat->Prop}{x1 x2 x3 C A:B}(al:List gZ)(hA:jd p σ.h A al)(hl:aq8 al)(h1:x1.kn=true)(h2:x2.kn=true)(h3:x3.kn=true)(h4:C.kn=true)(c:Int):
  aC EN 50 [.agg [x1,x2,x3,C,A],.c (.int .i64 c)] σ λr σ'=>(∃b,r=.c (.bool b)/\(b=true->ahZ al c))/\Fr σ σ':=by
 refine aQ (Jc.o _ _) Jc.h ?_
 unfold Jc
 dsimp only
 obtain⟨T,hT,hT2⟩:=hA
 have hlen:=hT.len
 have hkn:=hT.kn
 simp(disch:=try exact jz) only[go_sem,z3,hkn,hlen]
 refine aF (λq tm σ'=>∃j,q=al.length-j/\j<=al.length/\Tr.ah tm 1=.c (.int .i64 c)/\Tr.ah tm 12=.c A/\Tr.ah tm 13=.c (.int .i64 (.ofNat al.length))/\Tr.ah tm 14=.c (.int .i64 (.ofNat j))
  /\(∀j',j'<j->∀t,t<(ix al j').length->∀p,p<(ix (ix al j') t).length->(ix (ix (ix al j') t) p).k≠c)/\Fr σ σ') al.length ?_ ?_
 .refine⟨0,jb,jb,?_⟩
  simp(disch:=try exact jz) only[go_sem,z3,am]
  exact⟨λj hj=>jb,fr⟩
 .rintro q tm σ' ⟨j,rfl,hj,t1,t12,t13,t14,hfree,hf⟩
  have hle:=hf.le
  have hl0:=hl.1
  simp(disch:=try exact jz) only[go_sem,z3,t1,t12,t13,t14,aG]
  refine aH (λhlt=>?_) (λhlt=>?_)
  .obtain⟨b,o,cc,rfl,-,hld⟩:=hT.pos jb
   have hld:=hf.ld hW (hld j hlt)
   have hlk:=(vg hld).2
   have hTj:=hT2 j hlt
   obtain⟨hlj,awV⟩:=hl.2 j hlt
   generalize hag:ix al j=ag at*
   obtain⟨U,hU,hU2⟩:=hTj
   have ah0:=hU.len
   simp(disch:=try exact jz) only[go_sem,z3,t1,t12,t13,t14,hld,hlk,ah0]
   refine aF (λq tm σ3=>∃t,q=ag.length-t/\t<=ag.length/\Tr.ah tm 1=.c (.int .i64 c)/\Tr.ah tm 12=.c (.sl b o al.length cc)/\Tr.ah tm 13=.c (.int .i64 (.ofNat al.length))/\Tr.ah tm 14=.c (.int .i64 (.ofNat j))
    /\Tr.ah tm 19=.c (T j)/\Tr.ah tm 20=.c (.int .i64 (.ofNat ag.length))/\Tr.ah tm 21=.c (.int .i64 (.ofNat t))
    /\(∀t',t'<t->∀p,p<(ix ag t').length->(ix (ix ag t') p).k≠c)/\Fr σ σ3) ag.length ?_ ?_
   .refine⟨0,jb,jb,?_⟩
    simp(disch:=try exact jz) only[go_sem,z3,t1,t12,t13,t14,am]
    exact⟨λt ht=>jb,fr⟩
   .rintro q tm3 σ3 ⟨t,rfl,ht,t1,t12,t13,t14,t19,t20,t21,ah1,hf3⟩
    simp(disch:=try exact jz) only[go_sem,z3,t1,t12,t13,t14,t19,t20,t21,aG]
    refine aH (λhlt3=>?_) (λhlt3=>?_)
    .obtain⟨b3,o3,c3,e3,-,uy⟩:=hU.pos jb
     have uy:=hf3.ld hW (uy t hlt3)
     have uy:=(vg uy).1
     have hPt:=hU2 t hlt3
     have hlt4:=awV t hlt3
     generalize hti:ix ag t=ti at*
     have Ol:=hPt.len
     rw[e3]at t19
     simp(disch:=try exact jz) only[go_sem,z3,t1,t12,t13,t14,t19,t20,t21,uy,Ol]
     refine aF (λq tm σ5=>∃k,q=ti.length-k/\k<=ti.length/\Tr.ah tm 1=.c (.int .i64 c)/\Tr.ah tm 12=.c (.sl b o al.length cc)/\Tr.ah tm 13=.c (.int .i64 (.ofNat al.length))/\Tr.ah tm 14=.c (.int .i64 (.ofNat j))
      /\Tr.ah tm 19=.c (.sl b3 o3 ag.length c3)/\Tr.ah tm 20=.c (.int .i64 (.ofNat ag.length))/\Tr.ah tm 21=.c (.int .i64 (.ofNat t))
      /\Tr.ah tm 25=.c (U t)/\Tr.ah tm 26=.c (.int .i64 (.ofNat ti.length))/\Tr.ah tm 27=.c (.int .i64 (.ofNat k))
      /\(∀p,p<k->(ix ti p).k≠c)/\Fr σ σ5) ti.length ?_ ?_
     .refine⟨0,jb,jb,?_⟩
      simp(disch:=try exact jz) only[go_sem,z3,t1,t12,t13,t14,t19,t20,t21,am]
      exact⟨λt ht=>jb,hf3⟩
     .rintro q tm5 σ5 ⟨k,rfl,hk,t1,t12,t13,t14,t19,t20,t21,t25,t26,t27,ah2,hf5⟩
      simp(disch:=try exact jz) only[go_sem,z3,t1,t12,t13,t14,t19,t20,t21,t25,t26,t27,aG]
      refine aH (λamq=>?_) (λamq=>?_)
      .obtain⟨b5,o5,c5,e5,-,bU⟩:=hPt.pos jb
       have bU:=hf5.ld hW (bU k amq)
       unfold Bz at bU
       rw[e5]at t25
       have yV:=hf5.le
       simp(disch:=try exact jz) only[go_sem,z3,t1,t12,t13,t14,t19,t20,t21,t25,t26,t27,bU]
       refine aH (λhq=>?_) (λhq=>?_)
       .simp(disch:=try exact jz) only[go_sem,z3,t1]
        exact⟨⟨_,rfl,λh=>by cases h⟩,fr⟩
       .simp(disch:=try exact jz) only[go_sem,z3,t1,t12,t13,t14,t19,t20,t21,t25,t26,t27]
        refine⟨ti.length-(k+1),jb,k+1,rfl,jb,by rw[e5],rfl,λp hp=>?_,fr⟩
        by_cases e:p=k
        .rw[e];exact hq
        .exact ah2 p jb
      .have:k=ti.length:=jb
       subst this
       simp(disch:=try exact jz) only[go_sem,z3,t1,t12,t13,t14,t19,t20,t21]
       refine⟨ag.length-(t+1),jb,t+1,rfl,jb,by rw[e3],rfl,λt' ht'=>?_,hf5⟩
       by_cases e:t'=t
       .rw[e,hti];exact ah2
       .exact ah1 t' jb
    .have:t=ag.length:=jb
     subst this
     simp(disch:=try exact jz) only[go_sem,z3,t1,t12,t13,t14]
     refine⟨al.length-(j+1),jb,j+1,rfl,jb,rfl,λj' hj'=>?_,hf3⟩
     by_cases e:j'=j
     .rw[e,hag];exact ah1
     .exact hfree j' jb
  .have:j=al.length:=jb
   subst this
   simp(disch:=try exact jz) only[go_sem,z3,t1]
   exact⟨⟨_,rfl,λ_=>hfree⟩,hf⟩
def NL(Q:(Nat->Prop)->Tr Bk->Nat->Prop)(h:Tr Bk)(v:B)(n:Nat)(G:Nat->List B)(e ty lo hi:Nat):Prop:=
 (n=0/\v=.aV)\/(0<n/\∃b,v=.sl b 0 n .opn/\h b=some ⟨bD n G,some (e,ty)⟩/\lo<=b/\b<hi/\∀j,j<n->Q (λx=>lo<=x/\x<b) h j)
def QK(Q:(Nat->Prop)->Tr Bk->Nat->Prop)(j:Nat):Prop:=∀(p q:Nat->Prop) (h h':Tr Bk),Q p h j->(∀b,p b->h' b=h b)->(∀b,p b->q b)->Q q h' j
section
variable {Q:(Nat→Prop)→Tr Bk→Nat→Prop} {h h' : Tr Bk} {v:B} {n:Nat} {G G' : Nat→List B} {e ty lo hi:Nat}
theorem NL.nil:NL Q h .aV 0 G e ty lo hi:=.inl ⟨rfl,rfl⟩
def NL.own(ho:NL Q h v n G e ty lo hi):kZ h v n G e ty lo hi:=by
 rcases ho with h1|⟨h0,b,rfl,h1,h2,h3,-⟩
 .exact .inl h1
 .exact .inr ⟨h0,b,rfl,h1,h2,h3⟩
def NL.mono(ho:NL Q h v n G e ty lo hi)(hQ:∀j,j<n->QK Q j)(hh:∀b,lo<=b->b<hi->h' b=h b){hi':Nat}(h2:hi<=hi'):NL Q h' v n G e ty lo hi':=by
 rcases ho with h1|⟨h0,b,rfl,k1,k2,k3,k4⟩
 .exact .inl h1
 .exact .inr ⟨h0,b,rfl,by grind,k2,jb,λj hj=>hQ j hj _ _ _ _ (k4 j hj) (λx hx=>hh x hx.1 jb) λx hx=>hx⟩
def NL.el(ho:NL Q h v n G e ty lo hi)(hQ:∀j,j<n->QK Q j){j:Nat}(hj:j<n):Q (λx=>lo<=x/\x<hi) h j:=by
 rcases ho with⟨h1,-⟩|⟨h0,b,rfl,k1,k2,k3,k4⟩
 .omega
 .exact hQ j hj _ _ _ _ (k4 j hj) (λ_ _=>rfl) λx hx=>⟨hx.1,jb⟩
def NL.push(ho:NL Q h v n G e ty lo hi)(hQ:∀j,j<=n->QK Q j){x:List B}{hi1 nx n':Nat}{h1:Tr Bk}(hx:Q (λb=>hi<=b/\b<hi1) h1 n)(hh:∀b,lo<=b->b<hi->h1 b=h b)(h2:hi<=hi1)(h3:hi1<=nx)(h4:nx<n')(h5:lo<=hi){cells:List B}(hc:cells=bD n G++x)
  (hb:h' nx=some ⟨cells,some (e,ty)⟩) (hk:∀b,lo<=b->b<hi1->(∀c m k,v=.sl c 0 m k->b≠c)->h' b=h1 b) (hg:∀i,i<n->G' i=G i) (hgn:G' n=x):NL Q h' (.sl nx 0 (n+1) .opn) (n+1) G' e ty lo n':=by
 refine .inr ⟨jb,nx,rfl,?_,jb,h4,λj hj=>?_⟩
 .grind[Go.Proofs.Xe.jI,Go.Proofs.Xe.bF,Go.Proofs.Xe.iT]
 .by_cases e:j=n
  .subst e
   refine hQ j jb _ _ _ _ hx (λx hx=>hk x jb hx.2 λc m k e=>?_) λx hx=>⟨jb,jb⟩
   rcases ho with⟨-,rfl⟩|⟨-,b,rfl,-,-,k3,-⟩
   .cases e
   grind
  .rcases ho with⟨rfl,rfl⟩|⟨h0,b,rfl,k1,k2,k3,k4⟩
   .omega
   .exact hQ j jb _ _ _ _ (k4 j jb) (λx hx=>by grind) λx hx=>⟨hx.1,jb⟩
def NL.congr{Q':(Nat->Prop)->Tr Bk->Nat->Prop}(ho:NL Q h v n G e ty lo hi)(hQ:∀j,j<n->∀p h,Q p h j->Q' p h j)(hG:∀j,j<n->G j=G' j):NL Q' h v n G' e ty lo hi:=by
 rcases ho with h1|⟨h0,b,rfl,k1,k2,k3,k4⟩
 .exact .inl h1
 .exact .inr ⟨h0,b,rfl,by rw[k1,bF hG],k2,k3,λj hj=>hQ j hj _ _ (k4 j hj)⟩
def kZ.of{h:Tr Bk}{nx n:Nat}{G:Nat->List B}{e ty lo hi:Nat}(hb:h nx=some ⟨bD n G++G n,some (e,ty)⟩)(h1:lo<=nx)(h2:nx<hi):kZ h (.sl nx 0 (n+1) .opn) (n+1) G e ty lo hi:=by refine .inr ⟨jb,nx,rfl,?_,h1,h2⟩;grind[Go.Proofs.Xe.jI,Go.Proofs.Xe.bF,Go.Proofs.Xe.iT]
end
section
variable {R:B→(Nat→Prop)→Tr Bk→Nat→Prop} {U:Nat→B} {h h' h1:Tr Bk} {v x:B} {n ty lo hi hi1 nx n' : Nat}
end
def qU{r:R3}{k:Nat}(h:r.fits k)(hk:k<=50000000):r.s.size+r.d.size<=130000000:=by have:=h.1;have:=h.2;omega
def dX.kn{p:Nat->Prop}{h:Tr Bk}{v:B}{l:gZ}(hl:dX p h v l):v.kn=true:=hl.choose_spec.1.kn
def jd.at{p:Nat->Prop}{h:Tr Bk}{v:B}{l:List gZ}(hl:jd p h v l){j:Nat}(hj:j<l.length):∃b o c,v=.sl b o l.length c/\∃T:B,ld h b (o+j*1) 1 true=some (.agg [T])/\dX p h T (ix l j):=by obtain⟨T,h1,h2⟩:=hl;obtain⟨b,o,c,e,-,hld⟩:=h1.pos jb;grind
def dX.at{p:Nat->Prop}{h:Tr Bk}{v:B}{l:gZ}(hl:dX p h v l){j:Nat}(hj:j<l.length):∃b o c,v=.sl b o l.length c/\∃T:B,ld h b (o+j*1) 1 false=some (.c T)/\CS p h T (ix l j):=by obtain⟨T,h1,h2⟩:=hl;obtain⟨b,o,c,e,-,hld⟩:=h1.pos jb;exact⟨b,o,c,e,T j,(vg (hld j hj)).1,h2 j hj⟩
def jd.len{p:Nat->Prop}{h:Tr Bk}{v:B}{l:List gZ}(hl:jd p h v l):lenV (.c v)=some (.c (.int .i64 (.ofNat l.length))):=hl.choose_spec.1.len
def dX.len{p:Nat->Prop}{h:Tr Bk}{v:B}{l:gZ}(hl:dX p h v l):lenV (.c v)=some (.c (.int .i64 (.ofNat l.length))):=hl.choose_spec.1.len
def kZ.cases{h:Tr Bk}{v:B}{n:Nat}{G:Nat->List B}{e ty lo hi:Nat}(ho:kZ h v n G e ty lo hi):(n=0/\v=.aV)\/(0<n/\∃b,v=.sl b 0 n .opn/\h b=some ⟨bD n G,some (e,ty)⟩/\lo<=b/\b<hi):=ho
def Om{e n:Nat}{G:Nat->List B}(hG:∀j,(G j).length=e):n*e<=(bD n G).length:=by grind[oH]
theorem dX.fr{σ σ':St}(hW:WF σ)(hf:Fr σ σ'){p:Nat->Prop}{v:B}{l:gZ}(hl:dX p σ.h v l):dX (Lt σ.aj) σ'.h v l:=by obtain⟨T,h1,h2⟩:=hl;exact⟨T,h1.fr hW hf,λi hi=>(h2 i hi).fr hW hf⟩
structure NF(Q:(Nat->Prop)->Tr Bk->Nat->Prop)(h:Tr Bk)(b n:Nat)(G:Nat->List B)(e ty lo hi:Nat):Prop where
 g:xU n h b=gF n G e ty
 L:LG G e
 l1:lo<=b
 l2:n=0\/b<hi
 q:∀j,j<n->Q (λx=>lo<=x/\x<b) h j
def NoQ(_:Nat->Prop)(_:Tr Bk)(_:Nat):Prop:=True
def JV(j:Nat):QK NoQ j:=λ_ _ _ _ h _ _=>h
section
variable {Q Q' : (Nat→Prop)→Tr Bk→Nat→Prop} {h h' : Tr Bk} {b n:Nat} {G G' : Nat→List B} {e ty lo hi:Nat}
theorem NF.nil(hL:LG G e):NF Q h lo 0 G e ty lo hi:=⟨rfl,hL,jp,.inl rfl,λ_ h=>jb⟩
def NF.own(ho:NF Q h b n G e ty lo hi):kZ h (aU n b) n G e ty lo hi:=by
 obtain⟨g,L,h1,h2,-⟩:=ho;cases n with
 |zero=>exact .inl ⟨rfl,rfl⟩
 |succ n=>exact .inr ⟨jb,b,rfl,g,h1,jb⟩
def NF.hlp(ho:NF Q h b n G e ty lo hi)(he:0<e)(hk:∀j,j<n->(G j).all B.kn=true){p:Nat->Prop}(hp:∀b,lo<=b->b<hi->p b):bf p h e (aU n b) n G:=kZ.hlp ho.own ho.L he hk hp
def NF.mono(ho:NF Q h b n G e ty lo hi)(hQ:∀j,j<n->QK Q j)(hh:∀b,lo<=b->b<hi->h' b=h b){hi':Nat}(h2:hi<=hi'):NF Q h' b n G e ty lo hi':=by have h3:=ho.l1;have h4:=ho.l2;refine⟨?_,ho.L,ho.l1,jb,λj hj=>hQ j hj _ _ _ _ (ho.q j hj) (λx hx=>hh x hx.1 jb) λx hx=>hx⟩;rw[vU,ho.g];grind
def NF.el(ho:NF Q h b n G e ty lo hi)(hQ:∀j,j<n->QK Q j){j:Nat}(hj:j<n):Q (λx=>lo<=x/\x<hi) h j:=by have h4:=ho.l2;exact hQ j hj _ _ _ _ (ho.q j hj) (λ_ _=>rfl) λx hx=>⟨hx.1,jb⟩
def NF.push(ho:NF Q h b n G e ty lo hi)(hQ:∀j,j<=n->QK Q' j)(hQQ:∀j,j<n->∀p h,Q p h j->Q' p h j){hi1 nx n':Nat}{h1:Tr Bk}(hx:Q' (λb=>hi<=b/\b<hi1) h1 n)(hh:∀b,lo<=b->b<hi->h1 b=h b)(h2:hi<=hi1)(h3:hi1<=nx)(h4:nx<n')(h5:lo<=hi)
  {x:List B}(hb:h' nx=some ⟨bD n G++x,some (e,ty)⟩) (hgn:x=G' n) (hk:∀c,lo<=c->c<hi1->n=0\/c≠b->h' c=h1 c) (hg:∀i,i<n->G' i=G i) (hL:LG G' e):NF Q' h' nx (n+1) G' e ty lo n':=by
 obtain⟨g,-,l1,l2,q⟩:=ho
 refine⟨?_,hL,jb,jb,λj hj=>?_⟩
 .show h' nx=some _
  grind[Go.Proofs.Xe.jI,Go.Proofs.Xe.bF,Go.Proofs.Xe.iT]
 .by_cases e:j=n
  .subst e
   exact hQ j jb _ _ _ _ hx (λx hx=>hk x jb hx.2 jb) λx hx=>⟨jb,jb⟩
  .exact hQ j jb _ _ _ _ (hQQ j jb _ _ (q j jb)) (λx hx=>by grind) λx hx=>⟨hx.1,jb⟩
end
def yD(p:Nat->Prop)(h:Tr Bk)(v:B)(l:fU):Prop:=
 ∃G:Nat->B,bf p h 4 v l.length (λi=>jK (G i) (aW (ix l i)))/\alz v/\∀i,i<l.length->bf p h 4 (G i) (ix l i).length λj=>zO (ix (ix l i) j)
def Z7(p:Nat->Prop)(h:Tr Bk)(v:B)(ms:List Nat):Prop:=bf p h 1 v ms.length λi=>[PN ms i]
structure yE(p:Nat->Prop)(h:Tr Bk)(rv pv:B)(e:eH):Prop where
 rk:yD p h rv e.rk
 ps:∃Gm Gl:Nat->B,bf p h 2 pv e.ps.length (λi=>[Gm i,Gl i])/\∀i,i<e.ps.length->Z7 p h (Gm i) (ix e.ps i).1/\yD p h (Gl i) (ix e.ps i).2
section
variable {p q:Nat→Prop} {h h' : Tr Bk} {v rv pv:B} {l:fU} {ms:List Nat} {e:eH}
def yD.lad(hl:yD p h v l):Ib h v l:=by obtain⟨G,h1,h2,h3⟩:=hl;exact⟨G,h1.hl,h2,λi hi=>(h3 i hi).hl⟩
def yD.keep(hl:yD p h v l)(hk:∀b,p b->h' b=h b)(hp:∀b,p b->q b):yD q h' v l:=by obtain⟨G,h1,h2,h3⟩:=hl;exact⟨G,h1.keep hk hp,h2,λi hi=>(h3 i hi).keep hk hp⟩
def yD.kn(hl:yD p h v l):v.kn=true:=hl.choose_spec.1.kn
def Z7.hc(hl:Z7 p h v ms):HC h v ms.length (PN ms):=by
 by_cases h0:0<ms.length
 .obtain⟨b,o,c,e,hld⟩:=HL.one (bf.hl hl) h0;exact .inr ⟨b,o,c,e,hld⟩
 .rcases bf.hl hl with h1|⟨b,o,c,e,-⟩
  .exact .inl h1
  .exact .inr ⟨b,o,c,e,λi hi=>jb⟩
def yE.lay(hl:yE p h rv pv e):Jo h rv pv e:=by obtain⟨h1,Gm,Gl,h2,h3⟩:=hl;exact⟨h1.lad,Gm,Gl,h2.hl,λi hi=>⟨(h3 i hi).1.hc,(h3 i hi).2.lad⟩⟩
def yE.keep(hl:yE p h rv pv e)(hk:∀b,p b->h' b=h b)(hp:∀b,p b->q b):yE q h' rv pv e:=by obtain⟨h1,Gm,Gl,h2,h3⟩:=hl;exact⟨h1.keep hk hp,Gm,Gl,h2.keep hk hp,λi hi=>⟨bf.keep (h3 i hi).1 hk hp,(h3 i hi).2.keep hk hp⟩⟩
def yE.Vr(hl:yE p h rv pv e):pv.kn=true:=by obtain⟨-,Gm,Gl,h2,-⟩:=hl;exact h2.kn
end
def Oo(h:Tr Bk)(bs:Nat)(t:dO):Prop:=xU t.length h bs=gF t.length (λj=>zO (ix t j)) 4 203
def Oo.hlp{p:Nat->Prop}{h:Tr Bk}{bs:Nat}{t:dO}(ho:Oo h bs t)(hp:t.length=0\/p bs):bf p h 4 (aU t.length bs) t.length λj=>zO (ix t j):=by
 unfold Oo at ho;generalize t.length=n at*;cases n with
 |zero=>exact .inl ⟨rfl,rfl⟩
 |succ n=>exact bC _ ho rfl (hp.resolve_left jb) (λ_=>rfl) jj λ_ _=>rfl
def QT(t:dO)(p:Int×Rat):aW (t++[p])=aW t+p.2:=by
 induction t with
 |nil=>show p.2+0=0+p.2;grind
 |cons q t ih=>grind[aW]
structure lC(h:Tr Bk)(n:Nat)(k:Nat->Nat)(C:Nat->Nat->List B)(bs:Nat->Nat)(lo hi:Nat):Prop where
 r:∀i,i<n->h (bs i)=some ⟨bD (k i) (C i),none⟩/\lo<=bs i/\bs i<hi
 inj:∀i j,i<n->j<n->bs i=bs j->i=j
def xW(k bs:Nat->Nat)(i:Nat):B:=.sl (bs i) 0 (k i) (.ex (k i))
section
variable {h h' : Tr Bk} {n lo hi:Nat} {k bs:Nat→Nat} {C:Nat→Nat→List B}
theorem lC.nil(h:Tr Bk)(k:Nat->Nat)(C:Nat->Nat->List B)(bs:Nat->Nat)(lo hi:Nat):lC h 0 k C bs lo hi:=⟨λi hi=>jb,λi j hi=>jb⟩
def lC.mono(ho:lC h n k C bs lo hi)(hh:∀b,lo<=b->b<hi->h' b=h b){lo' hi':Nat}(h1:lo'<=lo)(h2:hi<=hi'):lC h' n k C bs lo' hi':=
 ⟨λi hi=>by obtain⟨k1,k2,k3⟩:=ho.r i hi;grind,ho.inj⟩
def lC.mono'(ho:lC h n k C bs lo hi)(hh:∀i,i<n->h' (bs i)=h (bs i)){lo' hi':Nat}(h1:lo'<=lo)(h2:hi<=hi'):lC h' n k C bs lo' hi':=
 ⟨λi hi=>by obtain⟨k1,k2,k3⟩:=ho.r i hi;grind,ho.inj⟩
def lC.congr{C':Nat->Nat->List B}(ho:lC h n k C bs lo hi)(hc:∀i,i<n->∀c,c<k i->C i c=C' i c):lC h n k C' bs lo hi:=
 ⟨λi hi=>by obtain⟨k1,k2,k3⟩:=ho.r i hi;grind[bF],ho.inj⟩
def lC.push(ho:lC h n k C bs lo hi){nb:Nat}{c:List B}(hb:h' nb=some ⟨c,none⟩)(hc:c=bD (k n) (C n))(hn:hi<=nb){hi':Nat}(h2:nb<hi')(hl:lo<=nb)(hh:∀b,lo<=b->b<hi->(∃i,i<n/\b=bs i)->h' b=h b):lC h' (n+1) k C (aO bs n nb) lo hi':=by
 refine⟨λi hi1=>?_,λi j hi1 hj e=>?_⟩
 .by_cases e:i=n
  .grind[aN]
  .obtain⟨k1,k2,k3⟩:=ho.r i jb;grind[aP]
 .by_cases e1:i=n<;>by_cases e2:j=n
  .omega
  .exfalso;rw[e1,aN,aP _ _ _ _ e2]at e;have:=(ho.r j jb).2.2;omega
  .exfalso;rw[e2,aN,aP _ _ _ _ e1]at e;have:=(ho.r i jb).2.2;omega
  .rw[aP _ _ _ _ e1,aP _ _ _ _ e2]at e;exact ho.inj i j jb jb e
def qV(C:Nat->Nat->List B)(i c:Nat)(x:List B):Nat->Nat->List B:=λi' c'=>if i'=i/\c'=c then x else C i' c'
def lC.set(ho:lC h n k C bs lo hi){i c:Nat}{x l:List B}(hi1:i<n)(hl:l=bD (k i) (iT (C i) c x)):lC (hset h (bs i) ⟨l,none⟩) n k (qV C i c x) bs lo hi:=by
 refine⟨λj hj=>?_,ho.inj⟩;obtain⟨k1,k2,k3⟩:=ho.r j hj;by_cases e:j=i
 .grind[Go.Proofs.Xe.aA,Go.Proofs.Xe.bF,Go.Proofs.Xe.iT,Go.Proofs.Xe.qV]
 .rw[ak _ _ _ _ (λe2=>e (ho.inj j i hj hi1 e2)),k1];grind[Go.Proofs.Xe.bF,Go.Proofs.Xe.qV]
def lC.hlp(ho:lC h n k C bs lo hi){p:Nat->Prop}{e:Nat}(hp:∀b,lo<=b->b<hi->p b)(he:0<e)(hC:∀i c,(C i c).length=e)(hk:∀i c,i<n->c<k i->(C i c).all B.kn=true){i:Nat}(hi1:i<n):bf p h e (xW k bs i) (k i) (C i):=by obtain⟨k1,k2,k3⟩:=ho.r i hi1;exact bC _ k1 rfl (hp _ k2 k3) (hC i) he λc hc=>hk i c hi1 hc
end
def aer(G:Nat->List B)(i:Nat)(a b:List B):iT (iT G i a) i b=iT G i b:=by grind[iT]
def Xt{G:Nat->List B}{e i:Nat}{x:List B}(hG:∀j,(G j).length=e)(hx:x.length=e)(j:Nat):(iT G i x j).length=e:=by grind[iT]
def ab7(G:Nat->List B)(i:Nat)(x:List B):iT G i x i=x:=ab rfl
def amr(t:dO):LG (λj=>zO (ix t j)) 4:=λ_=>rfl
def ah3{σ:St}(hW:WF σ){b n r:Nat}{G:Nat->List B}{o:Option (Nat×Nat)}(hb:σ.h b=some ⟨bD n G,o⟩)(hr:r<n)(hG:∀j,(G j).length=4)(hpl:plo o=true)(hrd:Yx o=true){t:dO}{bs:Nat}(hGr:G r=jK (aU t.length bs) (aW t))(hT:Oo σ.h bs t)(hne:t.length=0\/bs≠b)(hbs:t.length=0\/bs<σ.aj)(hl:t.length<=1000000)(k:Int)(q:Rat)(hs:Sz (aW t))(hq:Sz q):
  aC EN 93 [.c (.ptr b (r*4)),.c (.int .i64 k),.agg [.bool (rn q),.str (rs q),.str (rd q)]] σ λ_ σ'=>∃nx,σ.aj<=nx/\nx<σ'.aj/\σ'.h b=some ⟨bD n (iT G r (jK (.sl nx 0 (t.length+1) .opn) (aW t+q))),o⟩/\σ'.h nx=some ⟨bD t.length (λj=>zO (ix t j))++zO (k,q),some (4,203)⟩/\aT [b,bs] σ σ':=by
 refine aQ (nG.o _ _) nG.h ?_
 unfold nG
 dsimp only
 have hbl:=hW.lt hb
 have hFr:=Fr.refl hW
 have l0:ld σ.h b (r*4) 1 false=some (.c (aU t.length bs)):=by have:=wU (k:=0) (m:=1) false hG hr jj jj;rw[cB,hGr]at this;rw[au hb,Nu];dsimp only;rw[hrd,cj,this];unfold jK zk;simp[KH]
 have w0:∀x:B,xQ (bD n G) (r*4) [x]=some (bD n (iT G r (jK x (aW t)))):=λx=>by have:=yN (k:=0) (vs:=[x]) hG hr kc;rw[cB]at this;rw[this,hGr];rfl
 have r1:∀x:B,zk (bD n (iT G r (jK x (aW t)))) (r*4+1) 3 true=some (.agg [.bool (rn (aW t)),.str (rs (aW t)),.str (rd (aW t))]):=λx=>by have:=wU (k:=1) (m:=3) (G:=iT G r (jK x (aW t))) true (Xt hG rfl) hr jj jj;rw[this,ab7];rfl
 have w1:∀x a c d:B,xQ (bD n (iT G r (jK x (aW t)))) (r*4+1) [a,c,d]=some (bD n (iT G r [x,a,c,d])):=λx a c d=>by have:=yN (k:=1) (vs:=[a,c,d]) (G:=iT G r (jK x (aW t))) (Xt hG rfl) hr kc;rw[this,ab7,<-aer G r (jK x (aW t)) [x,a,c,d]];rfl
 have hLG:=amr t
 unfold Oo at hT
 simp(disch:=try exact jz) only[go_sem,z3,l0,aI hb,w0,r1,w1,hpl,hrd,hb,hT]
 refine⟨σ.aj+1+1,jb,jb,?_,?_,?_⟩
 .rfl
 .rw[ak _ _ _ _ jb,ak _ _ _ _ jb,aA];rfl
 .repeat(first|assumption|exact aT.refl (by assumption)|exact aT.up (by assumption) kf|exact aT.up (aT.refl (by assumption)) kf|refine aT.set1 ?_ kg kf|refine aT.kK ?_ kg|refine aT.nC ?_ kg|refine aT.nV ?_ kf)
end Go.Proofs.Xe
namespace Go.Proofs.Ins
structure GL where
 e:Nat->eH
 k:Nat->Nat
 h:Nat->Nat->Int
 ds:List (Rat×List fA)
def GL.eX(g:GL):List fA:=g.ds.flatMap (·.2)
def gq(g:GL)(x:Nat->Rat)(l:fA):Rat:=rQ (g.e l.1) (x l.1) l.2
def gs(g:GL)(x:Nat->Rat)(i:Nat)(l:fA):Rat:=if l.1=i then xH (g.e l.1) (x l.1) l.2 else 0
def Oq(g:GL)(d:Rat×List fA):Int:=match d.2 with|[]=>-1|l::_=>g.h l.1 l.2
def dG(g:GL)(x:Nat->Rat)(j:Nat)(d:Rat×List fA):Rat:=(if Oq g d=(j:Int)then jX d.1 (aJ d.2 (gq g x))else 0)+nO d.1 (gq g x) 0 d.2 j
def dM(g:GL)(x:Nat->Rat)(j i:Nat)(d:Rat×List fA):Rat:=
 (if Oq g d=(j:Int)then aJ d.2 (gs g x i)-nN d.1 (aJ d.2 (gq g x)) (aJ d.2 (gs g x i))else 0)+jf d.1 (gq g x) (gs g x i) 0 0 0 d.2 j
def rX(g:GL)(j i c:Nat):Bool:=!(g.eX.contains (i,c))&&g.h i c==(j:Int)
def gG(n:Nat)(g:GL)(x:Nat->Rat)(j:Nat):Rat:=aB n (λi=>aB (g.k i) λc=>if rX g j i c then gq g x (i,c)else 0)+aJ g.ds (dG g x j)
def gM(n:Nat)(g:GL)(x:Nat->Rat)(j i:Nat):Rat:=aB (g.k i) (λc=>if rX g j i c then gs g x i (i,c)else 0)+aJ g.ds (dM g x j i)
structure Ik(n:Nat)(g:GL):Prop where
 nn:∀i,i<n->BA (g.e i)
 inn:∀i,i<n->InE (g.k i) (g.e i)
 hold:∀i c,i<n->c<g.k i->g.h i c=-1\/0<=g.h i c/\g.h i c<n
 eX:∀l∈g.eX,l.1<n/\l.2<g.k l.1
 nodup:g.eX.Nodup
 pos:∀d∈g.ds,0<=d.1
section
variable {n:Nat} {g:GL}
def aes(hg:Ik n g){d:Rat×List fA}(hd:d∈g.ds):Oq g d=-1\/0<=Oq g d/\Oq g d<n:=by
 unfold Oq;split
 .omega
 .next l t e=>
  have h1:=hg.eX l (by grind[GL.eX]);exact hg.hold _ _ h1.1 h1.2
def pz(hg:Ik n g){d:Rat×List fA}(hd:d∈g.ds){l:fA}(hl:l∈d.2):l.1<n:=
 (hg.eX l (bX.mpr ⟨d,hd,hl⟩)).1
def ara(hg:Ik n g){d:Rat×List fA}(hd:d∈g.ds)(v:Rat):aB n (λj=>if Oq g d=(j:Int)then v else 0)=if Oq g d=-1 then 0 else v:=by
 rcases aes hg hd with h|⟨h1,h2⟩
 .grind[bK]
 .rw[ae jb,iL (k:=(Oq g d).toNat) jb λj _ hne=>ae jb,ab jb]
def ams(hg:Ik n g){i c:Nat}(hi:i<n)(hc:c<g.k i)(v:Rat):aB n (λj=>if rX g j i c then v else 0)=if(i,c)∈g.eX\/g.h i c=-1 then 0 else v:=by
 by_cases hl:(i,c)∈g.eX
 .grind[bK,rX]
 .rcases hg.hold i c hi hc with h|⟨h1,h2⟩
  .grind[bK,rX]
  .rw[ae kd,iL (k:=(g.h i c).toNat) jb λj _ hne=>?_,ab ?_]
   .grind[rX]
   grind[rX]
theorem QU(hg:Ik n g){x:Nat->Rat}(hx:Nn n x){l:fA}(hl:l.1<n):0<=gq g x l:=Jk (hg.nn _ hl) (hx _ hl) _
def gY(n:Nat)(q:fA->Rat)(l:fA):Rat:=if l.1<n then q l else 0
theorem KW{W:Rat}{q:fA->Rat}(j:Nat):∀(t:List fA) (Q:Rat),(∀l∈t,l.1<n)->nO W (gY n q) Q t j=nO W q Q t j
 |[],_,_=>rfl
 |l::t,Q,h=>by have e:gY n q l=q l:=ab (h l kc);unfold nO;rw[e,KW j t _ λu hu=>h u (by simp[hu])]
theorem Uy{W:Rat}{q r:fA->Rat}(j:Nat):∀(t:List fA) (Q R B:Rat),(∀l∈t,l.1<n)->jf W (gY n q) (gY n r) Q R B t j=jf W q r Q R B t j
 |[],_,_,_,_=>rfl
 |l::t,Q,R,B,h=>by have e:gY n q l=q l:=ab (h l kc);have e2:gY n r l=r l:=ab (h l kc);unfold jf;rw[e,e2,Uy j t _ _ _ λu hu=>h u (by simp[hu])]
def amu(hg:Ik n g){x y:Nat->Rat}(hx:Nn n x)(hxy:Le n x y)(j:Nat):gG n g x j<=gG n g y j:=by
 unfold gG;have h1:∀l:fA,l.1<n->gq g x l<=gq g y l:=λl hl=>N8 (hg.nn _ hl) (hx _ hl) (hxy _ hl) _;have h2:aB n (λi=>aB (g.k i) λc=>if rX g j i c then gq g x (i,c)else 0)<=aB n λi=>aB (g.k i) λc=>if rX g j i c then gq g y (i,c)else 0:=
  oJ λi hi=>oJ λc _=>by grind
 have h3:aJ g.ds (dG g x j)<=aJ g.ds (dG g y j):=vW λd hd=>by
  have hl:=λl hl=>pz hg hd (l:=l) hl;have a:aJ d.2 (gq g x)<=aJ d.2 (gq g y):=vW λl hl=>h1 l (pz hg hd hl);have b:=N9 (W:=d.1) (q:=gY n (gq g x)) (q':=gY n (gq g y)) (λl=>by
   grind[gY,QU]) (λl=>by
   grind[gY]) j d.2 0 0 aR
  grind[KW,jX,dG]
 grind
def Xu(gf:fA->Rat):∀L:List fA,L.Nodup->(∀l∈L,l.1<n/\l.2<g.k l.1)->aB n (λi=>aB (g.k i) λc=>if(i,c)∈L then gf (i,c)else 0)=aJ L gf
 |[],_,_=>bK λi _=>bK λc _=>by simp
 |p::t,hn,hl=>by
  rw[iu]at hn;have hp:=hl p kc;have e:aB n (λi=>aB (g.k i) λc=>if(i,c)∈p::t then gf (i,c)else 0)=aB n λi=>(if i=p.1 then gf p else 0)+aB (g.k i) λc=>if(i,c)∈t then gf (i,c)else 0:=aK λi _=>by
   have e2:(if i=p.1 then gf p else 0)=aB (g.k i) λc=>if i=p.1/\c=p.2 then gf p else 0:=by grind[iL,bK]
   rw[e2,<-dI];grind
  have hd:aB n (λi=>if i=p.1 then gf p else 0)=gf p:=by grind[iL]
  rw[e,dI,hd,Xu gf t hn.2 λl hl'=>hl l (by simp[hl'])];rfl
def Z8{α:Type}(l:List α)(f:α->List fA)(gf:fA->Rat):aJ (l.flatMap f) gf=aJ l λa=>aJ (f a) gf:=by
 induction l with
 |nil=>rfl
 |cons a l ih=>
  rw[ia]
  have:∀(u v:List fA),aJ (u++v) gf=aJ u gf+aJ v gf:=λu v=>by
   induction u with
   |nil=>grind[aJ]
   |cons x u ih=>
    grind[aJ]
  rw[this,ih];rfl
def Un(g:GL)(x:Nat->Rat)(i c:Nat):Rat:=if(i,c)∉g.eX/\g.h i c=-1 then gq g x (i,c)else 0
def aeu(g:GL)(x:Nat->Rat)(d:Rat×List fA):Rat:=if Oq g d=-1 then jX d.1 (aJ d.2 (gq g x))else 0
def ah4(hg:Ik n g)(x:Nat->Rat)(hx:Nn n x):aB n (λi=>x i-gG n g x i)=aB n (λi=>x i-aB (g.k i) (rQ (g.e i) (x i)))+aB n (λi=>aB (g.k i) (Un g x i))+aJ g.ds (aeu g x):=by
 have a1:aB n (λj=>aB n λi=>aB (g.k i) λc=>if rX g j i c then gq g x (i,c)else 0)=aB n λi=>aB (g.k i) λc=>if(i,c)∈g.eX\/g.h i c=-1 then 0 else gq g x (i,c):=by rw[wH];refine aK λi hi=>?_;simp_all[wH,aK,ams]
 have a2:aB n (λj=>aJ g.ds (dG g x j))=aJ g.ds λd=>(if Oq g d=-1 then 0 else jX d.1 (aJ d.2 (gq g x)))+rU (aJ d.2 (gq g x)-d.1):=by
  rw[Ec g.ds λd j=>dG g x j d];refine dP λd hd=>?_;have e:aB n (λj=>dG g x j d)=aB n (λj=>if Oq g d=(j:Int)then jX d.1 (aJ d.2 (gq g x))else 0)+aB n λj=>nO d.1 (gq g x) 0 d.2 j:=by rw[<-dI];rfl
  rw[e,ara hg hd,abU d.2 0 λl hl=>pz hg hd hl];have h0:=hg.pos d hd;have e2:rU (0-d.1)=0:=by unfold rU;split<;>grind
  grind
 have a3:aB n (λi=>aB (g.k i) λc=>if(i,c)∈g.eX then gq g x (i,c)else 0)=aJ g.ds λd=>aJ d.2 (gq g x):=by rw[Xu (gq g x) g.eX hg.nodup hg.eX];exact Z8 _ _ _
 have a4:aB n (λi=>aB (g.k i) λc=>if(i,c)∈g.eX\/g.h i c=-1 then 0 else gq g x (i,c))=aB n (λi=>aB (g.k i) (rQ (g.e i) (x i)))-aB n (λi=>aB (g.k i) λc=>if(i,c)∈g.eX then gq g x (i,c)else 0)-aB n (λi=>aB (g.k i) (Un g x i)):=by
  rw[<-iw,<-iw];refine aK λi _=>?_;rw[<-iw,<-iw];refine aK λc _=>?_;have e:rQ (g.e i) (x i) c=gq g x (i,c):=rfl;rw[e];unfold Un;by_cases h1:(i,c)∈g.eX
  .rw[ab (.inl h1),ab h1,ae λh=>h.1 h1];grind
  .by_cases h2:g.h i c=-1
   .rw[ab (.inr h2),ae h1,ab ⟨h1,h2⟩];grind
   .rw[ae (by simp[h1,h2]),ae h1,ae λh=>h2 h.2];grind
 have a5:aJ g.ds (λd=>(if Oq g d=-1 then 0 else jX d.1 (aJ d.2 (gq g x)))+rU (aJ d.2 (gq g x)-d.1))=aJ g.ds (λd=>aJ d.2 (gq g x))-aJ g.ds (aeu g x):=by
  rw[<-NZ];refine dP λd hd=>?_;unfold aeu;have e:jX d.1 (aJ d.2 (gq g x))+rU (aJ d.2 (gq g x)-d.1)=aJ d.2 (gq g x):=by unfold jX rU;split<;>split<;>grind
  split<;>grind
 have a6:aB n (λi=>x i-gG n g x i)=aB n x-(aB n (λj=>aB n λi=>aB (g.k i) λc=>if rX g j i c then gq g x (i,c)else 0)+aB n λj=>aJ g.ds (dG g x j)):=by rw[<-dI,<-iw];rfl
 grind[iw]
def amv(hg:Ik n g){x y:Nat->Rat}(hx:Nn n x)(hxy:Le n x y):aB n (λi=>x i-gG n g x i)<=aB n (λi=>y i-gG n g y i):=by
 rw[ah4 hg x hx,ah4 hg y (hx.le hxy)];have h0:∀l:fA,l.1<n->gq g x l<=gq g y l:=λl hl=>N8 (hg.nn _ hl) (hx _ hl) (hxy _ hl) _;have h1:aB n (λi=>x i-aB (g.k i) (rQ (g.e i) (x i)))<=aB n (λi=>y i-aB (g.k i) (rQ (g.e i) (y i))):=
  oJ λi hi=>Xl (hg.nn i hi) (hg.inn i hi) (hx i hi) (hxy i hi)
 have h2:aB n (λi=>aB (g.k i) (Un g x i))<=aB n (λi=>aB (g.k i) (Un g y i)):=oJ λi hi=>oJ λc _=>by grind[Un]
 have h3:aJ g.ds (aeu g x)<=aJ g.ds (aeu g y):=vW λd hd=>by have a:aJ d.2 (gq g x)<=aJ d.2 (gq g y):=vW λl hl=>h0 l (pz hg hd hl);grind[aeu,jX]
 grind
def gr(g:GL)(x d:Nat->Rat)(l:fA):Rat:=xH (g.e l.1) (x l.1) l.2*d l.1
structure Ok(n:Nat)(g:GL)(x d:Nat->Rat)(s:Rat):Prop where
 e:∀i,i<n->∀c,c<g.k i->rQ (g.e i) (x i+s*d i) c=rQ (g.e i) (x i) c+s*d i*xH (g.e i) (x i) c
 d:∀d'∈g.ds,okD d'.1 (gq g x) (gr g x d) s 0 0 d'.2
def ah5{x d:Nat->Rat}{l:fA}(hl:l.1<n):aB n (λi=>gs g x i l*d i)=gr g x d l:=by grind[gs,gr,iL]
def auL(hg:Ik n g){x:Nat->Rat}(hx:Nn n x){l:fA}(hl:l.1<n)(i:Nat):0<=gs g x i l:=by
 unfold gs;split
 .exact qN (hg.nn _ hl) (hx _ hl) _
 rfl
def Uz{W:Rat}{q r:fA->Rat}{s:Rat}:∀(t:List fA) (Q R:Rat),(∀l∈t,l.1<n)->(okD W (gY n q) (gY n r) s Q R t↔okD W q r s Q R t)
 |[],_,_,_=>Iff.rfl
 |l::t,Q,R,h=>by have e:gY n q l=q l:=ab (h l kc);have e2:gY n r l=r l:=ab (h l kc);unfold okD;rw[e,e2,Uz t _ _ λu hu=>h u (by simp[hu])]
def ah6(hg:Ik n g){x d:Nat->Rat}(hx:Nn n x)(hd:Nn n d){s:Rat}(h0:0<=s)(ho:Ok n g x d s){j:Nat}(hj:j<n):gG n g (aZ x d s) j=gG n g x j+s*mv n (gM n g x) d j:=by
 have hq:∀l:fA,l.1<n->l.2<g.k l.1->gq g (aZ x d s) l=gq g x l+s*gr g x d l:=λl h1 h2=>by have:=ho.e l.1 h1 l.2 h2;grind[gq,gr,aZ]
 have a1:aB n (λi=>aB (g.k i) λc=>if rX g j i c then gq g (aZ x d s) (i,c)else 0)=aB n (λi=>aB (g.k i) λc=>if rX g j i c then gq g x (i,c)else 0)+s*aB n λi=>aB (g.k i) (λc=>if rX g j i c then gs g x i (i,c)else 0)*d i:=by rw[<-fP,<-dI];refine aK λi hi=>?_;rw[<-pR,<-fP,<-dI];grind[Go.Proofs.Ins.aK,Go.Proofs.Ins.gs,Go.Proofs.Ins.gr]
 have a2:∀d'∈g.ds,dG g (aZ x d s) j d'=dG g x j d'+s*aB n λi=>dM g x j i d'*d i:=λd' hd'=>by
  have hl:=λl hl=>pz hg hd' (l:=l) hl;have hl2:∀l∈d'.2,l.2<g.k l.1:=λl hl=>(hg.eX l (bX.mpr ⟨d',hd',hl⟩)).2;have hok:=ho.d d' hd';have hcq:∀l,0<=gY n (gq g x) l:=λl=>by
   unfold gY;split
   .next h=>exact QU hg hx h
   .exact aR
  have hcr:∀l,0<=gY n (gr g x d) l:=λl=>by
   unfold gY;split
   .next h=>exact cg (qN (hg.nn _ h) (hx _ h) _) (hd _ h)
   .exact aR
  have hq0:(0:Rat)<d'.1->s*0<=d'.1-0:=λh=>by grind
  have b1:=abP (W:=d'.1) h0 hcr j d'.2 0 0 aR hq0 ((Uz d'.2 0 0 hl).mpr hok);have b2:nO d'.1 (λl=>gY n (gq g x) l+s*gY n (gr g x d) l) (0+s*0) d'.2 j=nO d'.1 (gq g (aZ x d s)) 0 d'.2 j:=by
   have z:(0:Rat)+s*0=0:=by grind
   rw[z];clear b1 hok hq0;have:∀(t:List fA) (Q:Rat),(∀l∈t,l.1<n/\l.2<g.k l.1)->nO d'.1 (λl=>gY n (gq g x) l+s*gY n (gr g x d) l) Q t j=nO d'.1 (gq g (aZ x d s)) Q t j:=by
    intro t;induction t with
    |nil=>intro Q _;rfl
    |cons l t ih=>
     intro Q h
     have h1:=h l kc
     have e:gY n (gq g x) l+s*gY n (gr g x d) l=gq g (aZ x d s) l:=by rw[hq l h1.1 h1.2];unfold gY;rw[ab h1.1,ab h1.1]
     unfold nO
     rw[e,ih _ λu hu=>h u (by simp[hu])]
   exact this d'.2 0 λl h=>⟨hl l h,hl2 l h⟩
  rw[b2,KW j _ _ hl,Uy j _ _ _ _ hl]at b1;have z0:nN d'.1 0 0=0:=by unfold nN;split<;>rfl
  rw[z0]at b1;have b3:jf d'.1 (gq g x) (gr g x d) 0 0 0 d'.2 j=aB n λi=>jf d'.1 (gq g x) (gs g x i) 0 0 0 d'.2 j*d i:=by
   have c:=abT (n:=n) (W:=d'.1) (q:=gq g x) d (gs g x) j d'.2 0 (λ_=>0) (λ_=>0);have z:aB n (λi=>0*d i)=0:=bK λi _=>by rw[Rat.zero_mul]
   rw[z]at c;rw[<-c];have:∀(t:List fA) (Q R B:Rat),(∀l∈t,l.1<n)->jf d'.1 (gq g x) (gr g x d) Q R B t j=jf d'.1 (gq g x) (λl=>aB n λi=>gs g x i l*d i) Q R B t j:=by
    intro t;induction t with
    |nil=>intro Q R B _;rfl
    |cons l t ih=>
     intro Q R B h
     unfold jf
     rw[ah5 (h l kc),ih _ _ _ λu hu=>h u (by simp[hu])]
   exact this d'.2 0 0 0 hl
  have b4:aJ d'.2 (gq g (aZ x d s))=aJ d'.2 (gq g x)+s*aJ d'.2 (gr g x d):=by rw[<-xG,<-Dn];exact dP λl h=>hq l (hl l h) (hl2 l h)
  have b5:aJ d'.2 (gr g x d)=aB n λi=>aJ d'.2 (gs g x i)*d i:=by
   have:aB n (λi=>aJ d'.2 (gs g x i)*d i)=aB n λi=>aJ d'.2 λl=>gs g x i l*d i:=aK λi _=>by rw[ga,<-xG];exact dP λl _=>ga _ _
   rw[this,Ec d'.2 λl i=>gs g x i l*d i];exact dP λl h=>(ah5 (hl l h)).symm
  have b6:0<=aJ d'.2 (gr g x d):=mX λl h=>cg (qN (hg.nn _ (hl l h)) (hx _ (hl l h)) _) (hd _ (hl l h));have b7:=abQ d'.2 0 0 hok (λh=>by grind);rw[gA,gA]at b7;have b8:=amj (W:=d'.1) h0 b6 b7;have b9:aB n (λi=>(aJ d'.2 (gs g x i)-nN d'.1 (aJ d'.2 (gq g x)) (aJ d'.2 (gs g x i)))*d i)=aJ d'.2 (gr g x d)-nN d'.1 (aJ d'.2 (gq g x)) (aJ d'.2 (gr g x d)):=by rw[b5,abS,<-iw];exact aK λi _=>by grind
  unfold dG dM;rw[b1,b3,b4,b8];by_cases e:Oq g d'=(j:Int)
  .simp only[ab e];have:aB n (λi=>(aJ d'.2 (gs g x i)-nN d'.1 (aJ d'.2 (gq g x)) (aJ d'.2 (gs g x i))+jf d'.1 (gq g x) (gs g x i) 0 0 0 d'.2 j)*d i)=aB n (λi=>(aJ d'.2 (gs g x i)-nN d'.1 (aJ d'.2 (gq g x)) (aJ d'.2 (gs g x i)))*d i)+aB n λi=>jf d'.1 (gq g x) (gs g x i) 0 0 0 d'.2 j*d i:=by rw[<-dI];exact aK λi _=>by rw[Rat.add_mul]
   rw[this,b9];grind
  .simp only[ae e];have:aB n (λi=>(0+jf d'.1 (gq g x) (gs g x i) 0 0 0 d'.2 j)*d i)=aB n λi=>jf d'.1 (gq g x) (gs g x i) 0 0 0 d'.2 j*d i:=aK λi _=>by rw[gA]
   rw[this];grind
 have a3:aJ g.ds (dG g (aZ x d s) j)=aJ g.ds (dG g x j)+s*aB n λi=>aJ g.ds (dM g x j i)*d i:=by rw[dP a2,Dn,xG];congr 2;rw[<-Ec g.ds λd' i=>dM g x j i d'*d i];refine aK λi _=>?_;rw[ga,<-xG];exact dP λ_ _=>ga _ _
 have a4:mv n (gM n g x) d j=aB n (λi=>aB (g.k i) (λc=>if rX g j i c then gs g x i (i,c)else 0)*d i)+aB n λi=>aJ g.ds (dM g x j i)*d i:=by rw[<-dI];exact aK λi _=>by unfold gM;rw[Rat.add_mul]
 grind[gG]
end
end Go.Proofs.Ins
