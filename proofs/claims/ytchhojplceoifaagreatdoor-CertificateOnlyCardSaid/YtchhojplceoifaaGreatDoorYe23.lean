import Derived.Test.YtchhojplceoifaaGreatDoorYe22
set_option linter.all false
set_option maxRecDepth 100000
namespace Go.Proofs.Xe
open Go.RowKit Go.Proofs.Ins
def acL{E:Env}{a b:AC}{tm:Tr V}{σ:St}{Q:AX->Tr V->St->Prop}(M:Tr V->St->Prop)(h1:bK E a tm σ λe tm σ=>e=.normal/\M tm σ)(h2:∀tm' σ',M tm' σ'->bK E b tm' σ' Q):bK E (.seq a b) tm σ Q:=
 run_seq (h1.mono λe tm σ' ⟨he,hm⟩=>by subst he;exact h2 _ _ hm)
structure KJ{α:Type}[Inhabited α](h:Tr Bk)(n:Nat)(c:α->List B)(e ty:Nat)(L:Nat->List α)(bs:Nat->Nat)(lo hi:Nat):Prop where
 blk:∀i,i<n->0<(L i).length->h (bs i)=some ⟨bV (L i).length (λk=>c (ix (L i) k)),some (e,ty)⟩/\lo<=bs i/\bs i<hi
 inj:∀i j,i<n->j<n->0<(L i).length->0<(L j).length->bs i=bs j->i=j
section
variable {α:Type} [Inhabited α] {h h' : Tr Bk} {n e ty lo hi:Nat} {c:α→List B} {L:Nat→List α} {bs:Nat→Nat}
theorem KJ.nil(h:Tr Bk)(n:Nat)(c:α->List B)(e ty:Nat)(bs:Nat->Nat)(lo hi:Nat):KJ h n c e ty (λ_=>[]) bs lo hi:=⟨λi _ h=>by simp at h,λi j _ _ h=>by simp at h⟩
def KJ.mono(hf:KJ h n c e ty L bs lo hi)(hh:∀b,lo<=b->b<hi->h' b=h b){hi':Nat}(h2:hi<=hi'):KJ h' n c e ty L bs lo hi':=
 ⟨λi hi hp=>by obtain⟨k1,k2,k3⟩:=hf.blk i hi hp;exact⟨by rw[hh _ k2 k3];exact k1,k2,jb⟩,hf.inj⟩
theorem gY(l:List α)(x:α){k:Nat}(h:k<l.length):ix (l++[x]) k=ix l k:=by rw[Q9,ab h]
theorem gZ(l:List α)(x:α):ix (l++[x]) l.length=x:=by rw[Q9,ae jb,ab rfl]
def KJ.push(hf:KJ h n c e ty L bs lo hi){i nx:Nat}(hi':i<n)(x:α){cells:List B}(hc:cells=bV (L i).length (λk=>c (ix (L i) k))++c x)(h1:h' nx=some ⟨cells,some (e,ty)⟩)
  (hh:∀j,j<n->j≠i->0<(L j).length->h' (bs j)=h (bs j)) (hlo:lo<=nx) (hnx:hi<=nx){hi2:Nat}(h2:nx<hi2):KJ h' n c e ty (aN L i (L i++[x])) (aN bs i nx) lo hi2:=by
 refine⟨λj hj hp=>?_,λa b ha hb pa pb e=>?_⟩
 .by_cases e:j=i
  .subst e
   rw[aP,aP,aD,cj]
   refine⟨?_,hlo,h2⟩
   rw[h1,hc,kM]
   congr 2
   refine dB λk hk=>?_
   unfold jk
   split
   .next e=>rw[e,gZ]
   .rw[gY _ _ jb]
  .rw[aQ _ _ _ _ e]at hp⊢
   rw[aQ _ _ _ _ e]
   obtain⟨k1,k2,k3⟩:=hf.blk j hj hp
   exact⟨by rw[hh j hj e hp];exact k1,k2,jb⟩
 .by_cases e1:a=i
  .by_cases e2:b=i
   .rw[e1,e2]
   .rw[e1,aP,aQ _ _ _ _ e2]at e
    rw[aQ _ _ _ _ e2]at pb
    have:=(hf.blk b hb pb).2.2
    omega
  .by_cases e2:b=i
   .rw[e2,aP,aQ _ _ _ _ e1]at e
    rw[aQ _ _ _ _ e1]at pa
    have:=(hf.blk a ha pa).2.2
    omega
   .rw[aQ _ _ _ _ e1]at pa
    rw[aQ _ _ _ _ e2]at pb
    rw[aQ _ _ _ _ e1,aQ _ _ _ _ e2]at e
    exact hf.inj a b ha hb pa pb e
def KJ.hlp(hf:KJ h n c e ty L bs lo hi){p:Nat->Prop}(hp:∀b,lo<=b->b<hi->p b)(hc:∀x,(c x).length=e)(he:0<e)(hk:∀x,(c x).all B.kn=true){i:Nat}(hi':i<n):aY p h e (lC (L i) (bs i)) (L i).length λk=>c (ix (L i) k):=by
 by_cases h0:(L i).length=0
 .exact .inl ⟨h0,by unfold lC;rw[ab h0]⟩
 .obtain⟨k1,k2,k3⟩:=hf.blk i hi' jb;rw[jh jb];exact bf _ k1 (by rw[Df _ _ jb]) (hp _ k2 k3) (λ_=>hc _) he λ_ _=>hk _
end
def jq.lt{σ:St}(hW:WF σ){p:Nat->Prop}{v:B}{l:List iI}(hl:jq p σ.h v l):jq (Lt σ.aj) σ.h v l:=by obtain⟨T,k1,k2⟩:=hl;refine⟨T,k1.lt hW,λj hj=>?_⟩;obtain⟨U,m1,m2⟩:=k2 j hj;exact⟨U,m1.lt hW,λl hl=>(m2 l hl).lt hW⟩
theorem jq.fr{σ σ':St}(hW:WF σ)(hf:Fr σ σ'){p:Nat->Prop}{v:B}{l:List iI}(hl:jq p σ.h v l):jq (Lt σ.aj) σ'.h v l:=(hl.lt hW).keep hf.lt λ_ h=>h
def aix(al:List iI)(c:Int):Prop:=∀j,j<al.length->∀t,t<(ix al j).length->∀p,p<(ix (ix al j) t).length->(ix (ix (ix al j) t) p).k≠c
def asi(al:List iI):Prop:=al.length<=1000/\∀j,j<al.length->(ix al j).length<=1000/\∀t,t<(ix al j).length->(ix (ix al j) t).length<=1000
def asj{σ:St}(hW:WF σ){p:Nat->Prop}{x1 x2 x3 C A:B}(al:List iI)(hA:jq p σ.h A al)(hl:asi al)(h1:x1.kn=true)(h2:x2.kn=true)(h3:x3.kn=true)(h4:C.kn=true)(c:Int):
  aC EN 80 [.agg [x1,x2,x3,C,A],.c (.int .i64 c)] σ λr σ'=>(∃b,r=.c (.bool b)/\(b=true->aix al c))/\Fr σ σ':=by
 refine aO (Jl.o _ _) Jl.h ?_
 unfold Jl
 dsimp only
 obtain⟨T,hT,hT2⟩:=hA
 have hlen:=hT.len
 have hkn:=hT.kn
 simp(disch:=try exact jz) only[go_sem,z3,hkn,hlen]
 refine aF (λq tm σ'=>∃j,q=al.length-j/\j<=al.length/\Tr.ah tm 1=.c (.int .i64 c)/\Tr.ah tm 12=.c A/\Tr.ah tm 13=.c (.int .i64 (.ofNat al.length))/\Tr.ah tm 14=.c (.int .i64 (.ofNat j))
  /\(∀j',j'<j->∀t,t<(ix al j').length->∀p,p<(ix (ix al j') t).length->(ix (ix (ix al j') t) p).k≠c)/\Fr σ σ') al.length ?_ ?_
 .refine⟨0,jb,jb,?_⟩
  simp(disch:=try exact jz) only[go_sem,z3,am]
  exact⟨λj hj=>jb,fr⟩
 .rintro q tm σ' ⟨j,rfl,hj,t1,t12,t13,t14,hfree,hf⟩
  have hle:=hf.le
  have hl0:=hl.1
  simp(disch:=try exact jz) only[go_sem,z3,t1,t12,t13,t14,aG]
  refine aH (λhlt=>?_) (λhlt=>?_)
  .obtain⟨b,o,cc,rfl,-,hld⟩:=hT.pos jb
   have hld:=hf.ld hW (hld j hlt)
   have hlk:=(vT hld).2
   have hTj:=hT2 j hlt
   obtain⟨hlj,axW⟩:=hl.2 j hlt
   generalize hag:ix al j=ag at*
   obtain⟨U,hU,hU2⟩:=hTj
   have aiy:=hU.len
   simp(disch:=try exact jz) only[go_sem,z3,t1,t12,t13,t14,hld,hlk,aiy]
   refine aF (λq tm σ3=>∃t,q=ag.length-t/\t<=ag.length/\Tr.ah tm 1=.c (.int .i64 c)/\Tr.ah tm 12=.c (.sl b o al.length cc)/\Tr.ah tm 13=.c (.int .i64 (.ofNat al.length))/\Tr.ah tm 14=.c (.int .i64 (.ofNat j))
    /\Tr.ah tm 19=.c (T j)/\Tr.ah tm 20=.c (.int .i64 (.ofNat ag.length))/\Tr.ah tm 21=.c (.int .i64 (.ofNat t))
    /\(∀t',t'<t->∀p,p<(ix ag t').length->(ix (ix ag t') p).k≠c)/\Fr σ σ3) ag.length ?_ ?_
   .refine⟨0,jb,jb,?_⟩
    simp(disch:=try exact jz) only[go_sem,z3,t1,t12,t13,t14,am]
    exact⟨λt ht=>jb,fr⟩
   .rintro q tm3 σ3 ⟨t,rfl,ht,t1,t12,t13,t14,t19,t20,t21,aiz,hf3⟩
    simp(disch:=try exact jz) only[go_sem,z3,t1,t12,t13,t14,t19,t20,t21,aG]
    refine aH (λhlt3=>?_) (λhlt3=>?_)
    .obtain⟨b3,o3,c3,e3,-,uU⟩:=hU.pos jb
     have uU:=hf3.ld hW (uU t hlt3)
     have uU:=(vT uU).1
     have hPt:=hU2 t hlt3
     have hlt4:=axW t hlt3
     generalize hti:ix ag t=ti at*
     have OE:=hPt.len
     rw[e3]at t19
     simp(disch:=try exact jz) only[go_sem,z3,t1,t12,t13,t14,t19,t20,t21,uU,OE]
     refine aF (λq tm σ5=>∃k,q=ti.length-k/\k<=ti.length/\Tr.ah tm 1=.c (.int .i64 c)/\Tr.ah tm 12=.c (.sl b o al.length cc)/\Tr.ah tm 13=.c (.int .i64 (.ofNat al.length))/\Tr.ah tm 14=.c (.int .i64 (.ofNat j))
      /\Tr.ah tm 19=.c (.sl b3 o3 ag.length c3)/\Tr.ah tm 20=.c (.int .i64 (.ofNat ag.length))/\Tr.ah tm 21=.c (.int .i64 (.ofNat t))
      /\Tr.ah tm 25=.c (U t)/\Tr.ah tm 26=.c (.int .i64 (.ofNat ti.length))/\Tr.ah tm 27=.c (.int .i64 (.ofNat k))
      /\(∀p,p<k->(ix ti p).k≠c)/\Fr σ σ5) ti.length ?_ ?_
     .refine⟨0,jb,jb,?_⟩
      simp(disch:=try exact jz) only[go_sem,z3,t1,t12,t13,t14,t19,t20,t21,am]
      exact⟨λt ht=>jb,hf3⟩
     .rintro q tm5 σ5 ⟨k,rfl,hk,t1,t12,t13,t14,t19,t20,t21,t25,t26,t27,aiA,hf5⟩
      simp(disch:=try exact jz) only[go_sem,z3,t1,t12,t13,t14,t19,t20,t21,t25,t26,t27,aG]
      refine aH (λam9=>?_) (λam9=>?_)
      .obtain⟨b5,o5,c5,e5,-,bP⟩:=hPt.pos jb
       have bP:=hf5.ld hW (bP k am9)
       unfold BU at bP
       rw[e5]at t25
       have wO:=hf5.le
       simp(disch:=try exact jz) only[go_sem,z3,t1,t12,t13,t14,t19,t20,t21,t25,t26,t27,bP]
       refine aH (λhq=>?_) (λhq=>?_)
       .simp(disch:=try exact jz) only[go_sem,z3,t1]
        exact⟨⟨_,rfl,λh=>by cases h⟩,fr⟩
       .simp(disch:=try exact jz) only[go_sem,z3,t1,t12,t13,t14,t19,t20,t21,t25,t26,t27]
        refine⟨ti.length-(k+1),jb,k+1,rfl,jb,by rw[e5],rfl,λp hp=>?_,fr⟩
        by_cases e:p=k
        .rw[e];exact hq
        .exact aiA p jb
      .have:k=ti.length:=jb
       subst this
       simp(disch:=try exact jz) only[go_sem,z3,t1,t12,t13,t14,t19,t20,t21]
       refine⟨ag.length-(t+1),jb,t+1,rfl,jb,by rw[e3],rfl,λt' ht'=>?_,hf5⟩
       by_cases e:t'=t
       .rw[e,hti];exact aiA
       .exact aiz t' jb
    .have:t=ag.length:=jb
     subst this
     simp(disch:=try exact jz) only[go_sem,z3,t1,t12,t13,t14]
     refine⟨al.length-(j+1),jb,j+1,rfl,jb,rfl,λj' hj'=>?_,hf3⟩
     by_cases e:j'=j
     .rw[e,hag];exact aiz
     .exact hfree j' jb
  .have:j=al.length:=jb
   subst this
   simp(disch:=try exact jz) only[go_sem,z3,t1]
   exact⟨⟨_,rfl,λ_=>hfree⟩,hf⟩
def QK(Q:(Nat->Prop)->Tr Bk->Nat->Prop)(j:Nat):Prop:=∀(p q:Nat->Prop) (h h':Tr Bk),Q p h j->(∀b,p b->h' b=h b)->(∀b,p b->q b)->Q q h' j
section
variable {Q:(Nat→Prop)→Tr Bk→Nat→Prop} {h h' : Tr Bk} {v:B} {n:Nat} {G G' : Nat→List B} {e ty lo hi:Nat}
end
section
variable {R:B→(Nat→Prop)→Tr Bk→Nat→Prop} {U:Nat→B} {h h' h1:Tr Bk} {v x:B} {n ty lo hi hi1 nx n' : Nat}
end
def pG{r:R3}{k:Nat}(h:r.fits k)(hk:k<=50000000):r.s.size+r.d.size<=130000000:=by have:=h.1;have:=h.2;omega
def fC.kn{p:Nat->Prop}{h:Tr Bk}{v:B}{l:iI}(hl:fC p h v l):v.kn=true:=hl.choose_spec.1.kn
def jq.at{p:Nat->Prop}{h:Tr Bk}{v:B}{l:List iI}(hl:jq p h v l){j:Nat}(hj:j<l.length):∃b o c,v=.sl b o l.length c/\∃T:B,ld h b (o+j*1) 1 true=some (.agg [T])/\fC p h T (ix l j):=by obtain⟨T,h1,h2⟩:=hl;obtain⟨b,o,c,e,-,hld⟩:=h1.pos jb;grind
def fC.at{p:Nat->Prop}{h:Tr Bk}{v:B}{l:iI}(hl:fC p h v l){j:Nat}(hj:j<l.length):∃b o c,v=.sl b o l.length c/\∃T:B,ld h b (o+j*1) 1 false=some (.c T)/\Dk p h T (ix l j):=by obtain⟨T,h1,h2⟩:=hl;obtain⟨b,o,c,e,-,hld⟩:=h1.pos jb;exact⟨b,o,c,e,T j,(vT (hld j hj)).1,h2 j hj⟩
def jq.len{p:Nat->Prop}{h:Tr Bk}{v:B}{l:List iI}(hl:jq p h v l):lenV (.c v)=some (.c (.int .i64 (.ofNat l.length))):=hl.choose_spec.1.len
def fC.len{p:Nat->Prop}{h:Tr Bk}{v:B}{l:iI}(hl:fC p h v l):lenV (.c v)=some (.c (.int .i64 (.ofNat l.length))):=hl.choose_spec.1.len
theorem fC.fr{σ σ':St}(hW:WF σ)(hf:Fr σ σ'){p:Nat->Prop}{v:B}{l:iI}(hl:fC p σ.h v l):fC (Lt σ.aj) σ'.h v l:=by obtain⟨T,h1,h2⟩:=hl;exact⟨T,h1.fr hW hf,λi hi=>(h2 i hi).fr hW hf⟩
structure NF(Q:(Nat->Prop)->Tr Bk->Nat->Prop)(h:Tr Bk)(b n:Nat)(G:Nat->List B)(e ty lo hi:Nat):Prop where
 g:sH n h b=gF n G e ty
 L:LG G e
 l1:lo<=b
 l2:n=0\/b<hi
 q:∀j,j<n->Q (λx=>lo<=x/\x<b) h j
def NoQ(_:Nat->Prop)(_:Tr Bk)(_:Nat):Prop:=True
def BN(j:Nat):QK NoQ j:=λ_ _ _ _ h _ _=>h
section
variable {Q Q' : (Nat→Prop)→Tr Bk→Nat→Prop} {h h' : Tr Bk} {b n:Nat} {G G' : Nat→List B} {e ty lo hi:Nat}
theorem NF.nil(hL:LG G e):NF Q h lo 0 G e ty lo hi:=⟨rfl,hL,jp,.inl rfl,λ_ h=>jb⟩
def NF.own(ho:NF Q h b n G e ty lo hi):Af h (aS n b) n G e ty lo hi:=by
 obtain⟨g,L,h1,h2,-⟩:=ho;cases n with
 |zero=>exact .inl ⟨rfl,rfl⟩
 |succ n=>exact .inr ⟨jb,b,rfl,g,h1,jb⟩
def NF.hlp(ho:NF Q h b n G e ty lo hi)(he:0<e)(hk:∀j,j<n->(G j).all B.kn=true){p:Nat->Prop}(hp:∀b,lo<=b->b<hi->p b):aY p h e (aS n b) n G:=Af.hlp ho.own ho.L he hk hp
def NF.mono(ho:NF Q h b n G e ty lo hi)(hQ:∀j,j<n->QK Q j)(hh:∀b,lo<=b->b<hi->h' b=h b){hi':Nat}(h2:hi<=hi'):NF Q h' b n G e ty lo hi':=by have h3:=ho.l1;have h4:=ho.l2;refine⟨?_,ho.L,ho.l1,jb,λj hj=>hQ j hj _ _ _ _ (ho.q j hj) (λx hx=>hh x hx.1 jb) λx hx=>hx⟩;rw[uF,ho.g];grind
def NF.el(ho:NF Q h b n G e ty lo hi)(hQ:∀j,j<n->QK Q j){j:Nat}(hj:j<n):Q (λx=>lo<=x/\x<hi) h j:=by have h4:=ho.l2;exact hQ j hj _ _ _ _ (ho.q j hj) (λ_ _=>rfl) λx hx=>⟨hx.1,jb⟩
def NF.push(ho:NF Q h b n G e ty lo hi)(hQ:∀j,j<=n->QK Q' j)(hQQ:∀j,j<n->∀p h,Q p h j->Q' p h j){hi1 nx n':Nat}{h1:Tr Bk}(hx:Q' (λb=>hi<=b/\b<hi1) h1 n)(hh:∀b,lo<=b->b<hi->h1 b=h b)(h2:hi<=hi1)(h3:hi1<=nx)(h4:nx<n')(h5:lo<=hi)
  {x:List B}(hb:h' nx=some ⟨bV n G++x,some (e,ty)⟩) (hgn:x=G' n) (hk:∀c,lo<=c->c<hi1->n=0\/c≠b->h' c=h1 c) (hg:∀i,i<n->G' i=G i) (hL:LG G' e):NF Q' h' nx (n+1) G' e ty lo n':=by
 obtain⟨g,-,l1,l2,q⟩:=ho
 refine⟨?_,hL,jb,jb,λj hj=>?_⟩
 .show h' nx=some _
  grind[Go.Proofs.Xe.kM,Go.Proofs.Xe.dB,Go.Proofs.Xe.jk]
 .by_cases e:j=n
  .subst e
   exact hQ j jb _ _ _ _ hx (λx hx=>hk x jb hx.2 jb) λx hx=>⟨jb,jb⟩
  .exact hQ j jb _ _ _ _ (hQQ j jb _ _ (q j jb)) (λx hx=>by grind) λx hx=>⟨hx.1,jb⟩
end
def yQ(p:Nat->Prop)(h:Tr Bk)(v:B)(l:gW):Prop:=
 ∃G:Nat->B,aY p h 4 v l.length (λi=>jQ (G i) (aW (ix l i)))/\amd v/\∀i,i<l.length->aY p h 4 (G i) (ix l i).length λj=>Ad (ix (ix l i) j)
def aaB(p:Nat->Prop)(h:Tr Bk)(v:B)(ms:List Nat):Prop:=aY p h 1 v ms.length λi=>[Qg ms i]
structure yR(p:Nat->Prop)(h:Tr Bk)(rv pv:B)(e:fJ):Prop where
 rk:yQ p h rv e.rk
 ps:∃Gm Gl:Nat->B,aY p h 2 pv e.ps.length (λi=>[Gm i,Gl i])/\∀i,i<e.ps.length->aaB p h (Gm i) (ix e.ps i).1/\yQ p h (Gl i) (ix e.ps i).2
section
variable {p q:Nat→Prop} {h h' : Tr Bk} {v rv pv:B} {l:gW} {ms:List Nat} {e:fJ}
def yQ.lad(hl:yQ p h v l):Ip h v l:=by obtain⟨G,h1,h2,h3⟩:=hl;exact⟨G,h1.hl,h2,λi hi=>(h3 i hi).hl⟩
def yQ.keep(hl:yQ p h v l)(hk:∀b,p b->h' b=h b)(hp:∀b,p b->q b):yQ q h' v l:=by obtain⟨G,h1,h2,h3⟩:=hl;exact⟨G,h1.keep hk hp,h2,λi hi=>(h3 i hi).keep hk hp⟩
def yQ.kn(hl:yQ p h v l):v.kn=true:=hl.choose_spec.1.kn
def aaB.hc(hl:aaB p h v ms):HC h v ms.length (Qg ms):=by
 by_cases h0:0<ms.length
 .obtain⟨b,o,c,e,hld⟩:=HL.one (aY.hl hl) h0;exact .inr ⟨b,o,c,e,hld⟩
 .rcases aY.hl hl with h1|⟨b,o,c,e,-⟩
  .exact .inl h1
  .exact .inr ⟨b,o,c,e,λi hi=>jb⟩
def yR.lay(hl:yR p h rv pv e):Jy h rv pv e:=by obtain⟨h1,Gm,Gl,h2,h3⟩:=hl;exact⟨h1.lad,Gm,Gl,h2.hl,λi hi=>⟨(h3 i hi).1.hc,(h3 i hi).2.lad⟩⟩
def yR.keep(hl:yR p h rv pv e)(hk:∀b,p b->h' b=h b)(hp:∀b,p b->q b):yR q h' rv pv e:=by obtain⟨h1,Gm,Gl,h2,h3⟩:=hl;exact⟨h1.keep hk hp,Gm,Gl,h2.keep hk hp,λi hi=>⟨aY.keep (h3 i hi).1 hk hp,(h3 i hi).2.keep hk hp⟩⟩
def yR.VX(hl:yR p h rv pv e):pv.kn=true:=by obtain⟨-,Gm,Gl,h2,-⟩:=hl;exact h2.kn
end
def OG(h:Tr Bk)(bs:Nat)(t:eH):Prop:=sH t.length h bs=gF t.length (λj=>Ad (ix t j)) 4 238
def OG.hlp{p:Nat->Prop}{h:Tr Bk}{bs:Nat}{t:eH}(ho:OG h bs t)(hp:t.length=0\/p bs):aY p h 4 (aS t.length bs) t.length λj=>Ad (ix t j):=by
 unfold OG at ho;generalize t.length=n at*;cases n with
 |zero=>exact .inl ⟨rfl,rfl⟩
 |succ n=>exact bf _ ho rfl (hp.resolve_left jb) (λ_=>rfl) jj λ_ _=>rfl
def Rz(t:eH)(p:Int×Rat):aW (t++[p])=aW t+p.2:=by
 induction t with
 |nil=>show p.2+0=0+p.2;grind
 |cons q t ih=>grind[aW]
structure lH(h:Tr Bk)(n:Nat)(k:Nat->Nat)(C:Nat->Nat->List B)(bs:Nat->Nat)(lo hi:Nat):Prop where
 r:∀i,i<n->h (bs i)=some ⟨bV (k i) (C i),none⟩/\lo<=bs i/\bs i<hi
 inj:∀i j,i<n->j<n->bs i=bs j->i=j
def yC(k bs:Nat->Nat)(i:Nat):B:=.sl (bs i) 0 (k i) (.ex (k i))
section
variable {h h' : Tr Bk} {n lo hi:Nat} {k bs:Nat→Nat} {C:Nat→Nat→List B}
theorem lH.nil(h:Tr Bk)(k:Nat->Nat)(C:Nat->Nat->List B)(bs:Nat->Nat)(lo hi:Nat):lH h 0 k C bs lo hi:=⟨λi hi=>jb,λi j hi=>jb⟩
def lH.mono(ho:lH h n k C bs lo hi)(hh:∀b,lo<=b->b<hi->h' b=h b){lo' hi':Nat}(h1:lo'<=lo)(h2:hi<=hi'):lH h' n k C bs lo' hi':=
 ⟨λi hi=>by obtain⟨k1,k2,k3⟩:=ho.r i hi;grind,ho.inj⟩
def lH.mono'(ho:lH h n k C bs lo hi)(hh:∀i,i<n->h' (bs i)=h (bs i)){lo' hi':Nat}(h1:lo'<=lo)(h2:hi<=hi'):lH h' n k C bs lo' hi':=
 ⟨λi hi=>by obtain⟨k1,k2,k3⟩:=ho.r i hi;grind,ho.inj⟩
def lH.congr{C':Nat->Nat->List B}(ho:lH h n k C bs lo hi)(hc:∀i,i<n->∀c,c<k i->C i c=C' i c):lH h n k C' bs lo hi:=
 ⟨λi hi=>by obtain⟨k1,k2,k3⟩:=ho.r i hi;grind[dB],ho.inj⟩
def lH.push(ho:lH h n k C bs lo hi){nb:Nat}{c:List B}(hb:h' nb=some ⟨c,none⟩)(hc:c=bV (k n) (C n))(hn:hi<=nb){hi':Nat}(h2:nb<hi')(hl:lo<=nb)(hh:∀b,lo<=b->b<hi->(∃i,i<n/\b=bs i)->h' b=h b):lH h' (n+1) k C (aN bs n nb) lo hi':=by
 refine⟨λi hi1=>?_,λi j hi1 hj e=>?_⟩
 .by_cases e:i=n
  .grind[aP]
  .obtain⟨k1,k2,k3⟩:=ho.r i jb;grind[aQ]
 .by_cases e1:i=n<;>by_cases e2:j=n
  .omega
  .exfalso;rw[e1,aP,aQ _ _ _ _ e2]at e;have:=(ho.r j jb).2.2;omega
  .exfalso;rw[e2,aP,aQ _ _ _ _ e1]at e;have:=(ho.r i jb).2.2;omega
  .rw[aQ _ _ _ _ e1,aQ _ _ _ _ e2]at e;exact ho.inj i j jb jb e
def rO(C:Nat->Nat->List B)(i c:Nat)(x:List B):Nat->Nat->List B:=λi' c'=>if i'=i/\c'=c then x else C i' c'
def lH.set(ho:lH h n k C bs lo hi){i c:Nat}{x l:List B}(hi1:i<n)(hl:l=bV (k i) (jk (C i) c x)):lH (hset h (bs i) ⟨l,none⟩) n k (rO C i c x) bs lo hi:=by
 refine⟨λj hj=>?_,ho.inj⟩;obtain⟨k1,k2,k3⟩:=ho.r j hj;by_cases e:j=i
 .grind[Go.Proofs.Xe.aA,Go.Proofs.Xe.dB,Go.Proofs.Xe.jk,Go.Proofs.Xe.rO]
 .rw[au _ _ _ _ (λe2=>e (ho.inj j i hj hi1 e2)),k1];grind[Go.Proofs.Xe.dB,Go.Proofs.Xe.rO]
def lH.hlp(ho:lH h n k C bs lo hi){p:Nat->Prop}{e:Nat}(hp:∀b,lo<=b->b<hi->p b)(he:0<e)(hC:∀i c,(C i c).length=e)(hk:∀i c,i<n->c<k i->(C i c).all B.kn=true){i:Nat}(hi1:i<n):aY p h e (yC k bs i) (k i) (C i):=by obtain⟨k1,k2,k3⟩:=ho.r i hi1;exact bf _ k1 rfl (hp _ k2 k3) (hC i) he λc hc=>hk i c hi1 hc
end
def aeX(G:Nat->List B)(i:Nat)(a b:List B):jk (jk G i a) i b=jk G i b:=by grind[jk]
def XW{G:Nat->List B}{e i:Nat}{x:List B}(hG:∀j,(G j).length=e)(hx:x.length=e)(j:Nat):(jk G i x j).length=e:=by grind[jk]
def acM(G:Nat->List B)(i:Nat)(x:List B):jk G i x i=x:=ab rfl
def ana(t:eH):LG (λj=>Ad (ix t j)) 4:=λ_=>rfl
def aiB{σ:St}(hW:WF σ){b n r:Nat}{G:Nat->List B}{o:Option (Nat×Nat)}(hb:σ.h b=some ⟨bV n G,o⟩)(hr:r<n)(hG:∀j,(G j).length=4)(hpl:plo o=true)(hrd:Y4 o=true){t:eH}{bs:Nat}(hGr:G r=jQ (aS t.length bs) (aW t))(hT:OG σ.h bs t)(hne:t.length=0\/bs≠b)(hbs:t.length=0\/bs<σ.aj)(hl:t.length<=1000000)(k:Int)(q:Rat)(hs:Sz (aW t))(hq:Sz q):
  aC EN 142 [.c (.ptr b (r*4)),.c (.int .i64 k),.agg [.bool (rn q),.str (rs q),.str (rd q)]] σ λ_ σ'=>∃nx,σ.aj<=nx/\nx<σ'.aj/\σ'.h b=some ⟨bV n (jk G r (jQ (.sl nx 0 (t.length+1) .opn) (aW t+q))),o⟩/\σ'.h nx=some ⟨bV t.length (λj=>Ad (ix t j))++Ad (k,q),some (4,238)⟩/\aU [b,bs] σ σ':=by
 refine aO (nS.o _ _) nS.h ?_
 unfold nS
 dsimp only
 have hbl:=hW.lt hb
 have hFr:=Fr.refl hW
 have l0:ld σ.h b (r*4) 1 false=some (.c (aS t.length bs)):=by have:=y8 (k:=0) (m:=1) false hG hr jj jj;rw[cF,hGr]at this;rw[ak hb,NU];dsimp only;rw[hrd,cD,this];unfold jQ zQ;simp[Es]
 have w0:∀x:B,yH (bV n G) (r*4) [x]=some (bV n (jk G r (jQ x (aW t)))):=λx=>by have:=AV (k:=0) (vs:=[x]) hG hr kc;rw[cF]at this;rw[this,hGr];rfl
 have r1:∀x:B,zQ (bV n (jk G r (jQ x (aW t)))) (r*4+1) 3 true=some (.agg [.bool (rn (aW t)),.str (rs (aW t)),.str (rd (aW t))]):=λx=>by have:=y8 (k:=1) (m:=3) (G:=jk G r (jQ x (aW t))) true (XW hG rfl) hr jj jj;rw[this,acM];rfl
 have w1:∀x a c d:B,yH (bV n (jk G r (jQ x (aW t)))) (r*4+1) [a,c,d]=some (bV n (jk G r [x,a,c,d])):=λx a c d=>by have:=AV (k:=1) (vs:=[a,c,d]) (G:=jk G r (jQ x (aW t))) (XW hG rfl) hr kc;rw[this,acM,<-aeX G r (jQ x (aW t)) [x,a,c,d]];rfl
 have hLG:=ana t
 unfold OG at hT
 simp(disch:=try exact jz) only[go_sem,z3,l0,aI hb,w0,r1,w1,hpl,hrd,hb,hT]
 refine⟨σ.aj+1+1,jb,jb,?_,?_,?_⟩
 .rfl
 .rw[au _ _ _ _ jb,au _ _ _ _ jb,aA];rfl
 .repeat(first|assumption|exact aU.refl (by assumption)|exact aU.up (by assumption) kf|exact aU.up (aU.refl (by assumption)) kf|refine aU.set1 ?_ kg kf|refine aU.kF ?_ kg|refine aU.nR ?_ kg|refine aU.oH ?_ kf)
end Go.Proofs.Xe
namespace Go.Proofs.Ins
structure GL where
 e:Nat->fJ
 k:Nat->Nat
 h:Nat->Nat->Int
 ds:List (Rat×List fM)
def GL.fA(g:GL):List fM:=g.ds.flatMap (·.2)
def gq(g:GL)(x:Nat->Rat)(l:fM):Rat:=uh (g.e l.1) (x l.1) l.2
def gs(g:GL)(x:Nat->Rat)(i:Nat)(l:fM):Rat:=if l.1=i then yh (g.e l.1) (x l.1) l.2 else 0
def F7(g:GL)(d:Rat×List fM):Int:=match d.2 with|[]=>-1|l::_=>g.h l.1 l.2
def dG(g:GL)(x:Nat->Rat)(j:Nat)(d:Rat×List fM):Rat:=(if F7 g d=(j:Int)then jP d.1 (aK d.2 (gq g x))else 0)+og d.1 (gq g x) 0 d.2 j
def dM(g:GL)(x:Nat->Rat)(j i:Nat)(d:Rat×List fM):Rat:=
 (if F7 g d=(j:Int)then aK d.2 (gs g x i)-nZ d.1 (aK d.2 (gq g x)) (aK d.2 (gs g x i))else 0)+jo d.1 (gq g x) (gs g x i) 0 0 0 d.2 j
def uX(g:GL)(j i c:Nat):Bool:=!(g.fA.contains (i,c))&&g.h i c==(j:Int)
def gG(n:Nat)(g:GL)(x:Nat->Rat)(j:Nat):Rat:=aB n (λi=>aB (g.k i) λc=>if uX g j i c then gq g x (i,c)else 0)+aK g.ds (dG g x j)
def gM(n:Nat)(g:GL)(x:Nat->Rat)(j i:Nat):Rat:=aB (g.k i) (λc=>if uX g j i c then gs g x i (i,c)else 0)+aK g.ds (dM g x j i)
structure Jz(n:Nat)(g:GL):Prop where
 nn:∀i,i<n->BX (g.e i)
 inn:∀i,i<n->InE (g.k i) (g.e i)
 hold:∀i c,i<n->c<g.k i->g.h i c=-1\/0<=g.h i c/\g.h i c<n
 fA:∀l∈g.fA,l.1<n/\l.2<g.k l.1
 nodup:g.fA.Nodup
 pos:∀d∈g.ds,0<=d.1
section
variable {n:Nat} {g:GL}
def aeY(hg:Jz n g){d:Rat×List fM}(hd:d∈g.ds):F7 g d=-1\/0<=F7 g d/\F7 g d<n:=by
 unfold F7;split
 .omega
 .next l t e=>
  have h1:=hg.fA l (by grind[GL.fA]);exact hg.hold _ _ h1.1 h1.2
def um(hg:Jz n g){d:Rat×List fM}(hd:d∈g.ds){l:fM}(hl:l∈d.2):l.1<n:=
 (hg.fA l (cG.mpr ⟨d,hd,hl⟩)).1
def asl(hg:Jz n g){d:Rat×List fM}(hd:d∈g.ds)(v:Rat):aB n (λj=>if F7 g d=(j:Int)then v else 0)=if F7 g d=-1 then 0 else v:=by
 rcases aeY hg hd with h|⟨h1,h2⟩
 .grind[bD]
 .rw[ae jb,iZ (k:=(F7 g d).toNat) jb λj _ hne=>ae jb,ab jb]
def anb(hg:Jz n g){i c:Nat}(hi:i<n)(hc:c<g.k i)(v:Rat):aB n (λj=>if uX g j i c then v else 0)=if(i,c)∈g.fA\/g.h i c=-1 then 0 else v:=by
 by_cases hl:(i,c)∈g.fA
 .grind[bD,uX]
 .rcases hg.hold i c hi hc with h|⟨h1,h2⟩
  .grind[bD,uX]
  .rw[ae kd,iZ (k:=(g.h i c).toNat) jb λj _ hne=>?_,ab ?_]
   .grind[uX]
   grind[uX]
theorem RF(hg:Jz n g){x:Nat->Rat}(hx:Nn n x){l:fM}(hl:l.1<n):0<=gq g x l:=Ju (hg.nn _ hl) (hx _ hl) _
def iD(n:Nat)(q:fM->Rat)(l:fM):Rat:=if l.1<n then q l else 0
theorem LP{W:Rat}{q:fM->Rat}(j:Nat):∀(t:List fM) (Q:Rat),(∀l∈t,l.1<n)->og W (iD n q) Q t j=og W q Q t j
 |[],_,_=>rfl
 |l::t,Q,h=>by have e:iD n q l=q l:=ab (h l kc);unfold og;rw[e,LP j t _ λu hu=>h u (by simp[hu])]
theorem U6{W:Rat}{q r:fM->Rat}(j:Nat):∀(t:List fM) (Q R B:Rat),(∀l∈t,l.1<n)->jo W (iD n q) (iD n r) Q R B t j=jo W q r Q R B t j
 |[],_,_,_,_=>rfl
 |l::t,Q,R,B,h=>by have e:iD n q l=q l:=ab (h l kc);have e2:iD n r l=r l:=ab (h l kc);unfold jo;rw[e,e2,U6 j t _ _ _ λu hu=>h u (by simp[hu])]
def anc(hg:Jz n g){x y:Nat->Rat}(hx:Nn n x)(hxy:Le n x y)(j:Nat):gG n g x j<=gG n g y j:=by
 unfold gG;have h1:∀l:fM,l.1<n->gq g x l<=gq g y l:=λl hl=>Ot (hg.nn _ hl) (hx _ hl) (hxy _ hl) _;have h2:aB n (λi=>aB (g.k i) λc=>if uX g j i c then gq g x (i,c)else 0)<=aB n λi=>aB (g.k i) λc=>if uX g j i c then gq g y (i,c)else 0:=
  pF λi hi=>pF λc _=>by grind
 have h3:aK g.ds (dG g x j)<=aK g.ds (dG g y j):=wL λd hd=>by
  have hl:=λl hl=>um hg hd (l:=l) hl;have a:aK d.2 (gq g x)<=aK d.2 (gq g y):=wL λl hl=>h1 l (um hg hd hl);have b:=Ou (W:=d.1) (q:=iD n (gq g x)) (q':=iD n (gq g y)) (λl=>by
   grind[iD,RF]) (λl=>by
   grind[iD]) j d.2 0 0 bo
  grind[LP,jP,dG]
 grind
def OH(gf:fM->Rat):∀L:List fM,L.Nodup->(∀l∈L,l.1<n/\l.2<g.k l.1)->aB n (λi=>aB (g.k i) λc=>if(i,c)∈L then gf (i,c)else 0)=aK L gf
 |[],_,_=>bD λi _=>bD λc _=>by simp
 |p::t,hn,hl=>by
  rw[js]at hn;have hp:=hl p kc;have e:aB n (λi=>aB (g.k i) λc=>if(i,c)∈p::t then gf (i,c)else 0)=aB n λi=>(if i=p.1 then gf p else 0)+aB (g.k i) λc=>if(i,c)∈t then gf (i,c)else 0:=aJ λi _=>by
   have e2:(if i=p.1 then gf p else 0)=aB (g.k i) λc=>if i=p.1/\c=p.2 then gf p else 0:=by grind[iZ,bD]
   rw[e2,<-bZ];grind
  have hd:aB n (λi=>if i=p.1 then gf p else 0)=gf p:=by grind[iZ]
  rw[e,bZ,hd,OH gf t hn.2 λl hl'=>hl l (by simp[hl'])];rfl
def OI{α:Type}(l:List α)(f:α->List fM)(gf:fM->Rat):aK (l.flatMap f) gf=aK l λa=>aK (f a) gf:=by
 induction l with
 |nil=>rfl
 |cons a l ih=>
  rw[im]
  have:∀(u v:List fM),aK (u++v) gf=aK u gf+aK v gf:=λu v=>by
   induction u with
   |nil=>grind[aK]
   |cons x u ih=>
    grind[aK]
  rw[this,ih];rfl
def UU(g:GL)(x:Nat->Rat)(i c:Nat):Rat:=if(i,c)∉g.fA/\g.h i c=-1 then gq g x (i,c)else 0
def aeZ(g:GL)(x:Nat->Rat)(d:Rat×List fM):Rat:=if F7 g d=-1 then jP d.1 (aK d.2 (gq g x))else 0
def aiC(hg:Jz n g)(x:Nat->Rat)(hx:Nn n x):aB n (λi=>x i-gG n g x i)=aB n (λi=>x i-aB (g.k i) (uh (g.e i) (x i)))+aB n (λi=>aB (g.k i) (UU g x i))+aK g.ds (aeZ g x):=by
 have a1:aB n (λj=>aB n λi=>aB (g.k i) λc=>if uX g j i c then gq g x (i,c)else 0)=aB n λi=>aB (g.k i) λc=>if(i,c)∈g.fA\/g.h i c=-1 then 0 else gq g x (i,c):=by rw[Aa];refine aJ λi hi=>?_;simp_all[Aa,aJ,anb]
 have a2:aB n (λj=>aK g.ds (dG g x j))=aK g.ds λd=>(if F7 g d=-1 then 0 else jP d.1 (aK d.2 (gq g x)))+nI (aK d.2 (gq g x)-d.1):=by
  rw[qE g.ds λd j=>dG g x j d];refine dR λd hd=>?_;have e:aB n (λj=>dG g x j d)=aB n (λj=>if F7 g d=(j:Int)then jP d.1 (aK d.2 (gq g x))else 0)+aB n λj=>og d.1 (gq g x) 0 d.2 j:=by rw[<-bZ];rfl
  rw[e,asl hg hd,acA d.2 0 λl hl=>um hg hd hl];have h0:=hg.pos d hd;have e2:nI (0-d.1)=0:=by unfold nI;split<;>grind
  grind
 have a3:aB n (λi=>aB (g.k i) λc=>if(i,c)∈g.fA then gq g x (i,c)else 0)=aK g.ds λd=>aK d.2 (gq g x):=by rw[OH (gq g x) g.fA hg.nodup hg.fA];exact OI _ _ _
 have a4:aB n (λi=>aB (g.k i) λc=>if(i,c)∈g.fA\/g.h i c=-1 then 0 else gq g x (i,c))=aB n (λi=>aB (g.k i) (uh (g.e i) (x i)))-aB n (λi=>aB (g.k i) λc=>if(i,c)∈g.fA then gq g x (i,c)else 0)-aB n (λi=>aB (g.k i) (UU g x i)):=by
  rw[<-gK,<-gK];refine aJ λi _=>?_;rw[<-gK,<-gK];refine aJ λc _=>?_;have e:uh (g.e i) (x i) c=gq g x (i,c):=rfl;rw[e];unfold UU;by_cases h1:(i,c)∈g.fA
  .rw[ab (.inl h1),ab h1,ae λh=>h.1 h1];grind
  .by_cases h2:g.h i c=-1
   .rw[ab (.inr h2),ae h1,ab ⟨h1,h2⟩];grind
   .rw[ae (by simp[h1,h2]),ae h1,ae λh=>h2 h.2];grind
 have a5:aK g.ds (λd=>(if F7 g d=-1 then 0 else jP d.1 (aK d.2 (gq g x)))+nI (aK d.2 (gq g x)-d.1))=aK g.ds (λd=>aK d.2 (gq g x))-aK g.ds (aeZ g x):=by
  rw[<-Il];refine dR λd hd=>?_;unfold aeZ;have e:jP d.1 (aK d.2 (gq g x))+nI (aK d.2 (gq g x)-d.1)=aK d.2 (gq g x):=by unfold jP nI;split<;>split<;>grind
  split<;>grind
 have a6:aB n (λi=>x i-gG n g x i)=aB n x-(aB n (λj=>aB n λi=>aB (g.k i) λc=>if uX g j i c then gq g x (i,c)else 0)+aB n λj=>aK g.ds (dG g x j)):=by rw[<-bZ,<-gK];rfl
 grind[gK]
def ane(hg:Jz n g){x y:Nat->Rat}(hx:Nn n x)(hxy:Le n x y):aB n (λi=>x i-gG n g x i)<=aB n (λi=>y i-gG n g y i):=by
 rw[aiC hg x hx,aiC hg y (hx.le hxy)];have h0:∀l:fM,l.1<n->gq g x l<=gq g y l:=λl hl=>Ot (hg.nn _ hl) (hx _ hl) (hxy _ hl) _;have h1:aB n (λi=>x i-aB (g.k i) (uh (g.e i) (x i)))<=aB n (λi=>y i-aB (g.k i) (uh (g.e i) (y i))):=
  pF λi hi=>XO (hg.nn i hi) (hg.inn i hi) (hx i hi) (hxy i hi)
 have h2:aB n (λi=>aB (g.k i) (UU g x i))<=aB n (λi=>aB (g.k i) (UU g y i)):=pF λi hi=>pF λc _=>by grind[UU]
 have h3:aK g.ds (aeZ g x)<=aK g.ds (aeZ g y):=wL λd hd=>by have a:aK d.2 (gq g x)<=aK d.2 (gq g y):=wL λl hl=>h0 l (um hg hd hl);grind[aeZ,jP]
 grind
def gr(g:GL)(x d:Nat->Rat)(l:fM):Rat:=yh (g.e l.1) (x l.1) l.2*d l.1
structure Ok(n:Nat)(g:GL)(x d:Nat->Rat)(s:Rat):Prop where
 e:∀i,i<n->∀c,c<g.k i->uh (g.e i) (x i+s*d i) c=uh (g.e i) (x i) c+s*d i*yh (g.e i) (x i) c
 d:∀d'∈g.ds,okD d'.1 (gq g x) (gr g x d) s 0 0 d'.2
def aiD{x d:Nat->Rat}{l:fM}(hl:l.1<n):aB n (λi=>gs g x i l*d i)=gr g x d l:=by grind[gs,gr,iZ]
def avQ(hg:Jz n g){x:Nat->Rat}(hx:Nn n x){l:fM}(hl:l.1<n)(i:Nat):0<=gs g x i l:=by
 unfold gs;split
 .exact rH (hg.nn _ hl) (hx _ hl) _
 rfl
def U7{W:Rat}{q r:fM->Rat}{s:Rat}:∀(t:List fM) (Q R:Rat),(∀l∈t,l.1<n)->(okD W (iD n q) (iD n r) s Q R t↔okD W q r s Q R t)
 |[],_,_,_=>Iff.rfl
 |l::t,Q,R,h=>by have e:iD n q l=q l:=ab (h l kc);have e2:iD n r l=r l:=ab (h l kc);unfold okD;rw[e,e2,U7 t _ _ λu hu=>h u (by simp[hu])]
def aiE(hg:Jz n g){x d:Nat->Rat}(hx:Nn n x)(hd:Nn n d){s:Rat}(h0:0<=s)(ho:Ok n g x d s){j:Nat}(hj:j<n):gG n g (bC x d s) j=gG n g x j+s*mv n (gM n g x) d j:=by
 have hq:∀l:fM,l.1<n->l.2<g.k l.1->gq g (bC x d s) l=gq g x l+s*gr g x d l:=λl h1 h2=>by have:=ho.e l.1 h1 l.2 h2;grind[gq,gr,bC]
 have a1:aB n (λi=>aB (g.k i) λc=>if uX g j i c then gq g (bC x d s) (i,c)else 0)=aB n (λi=>aB (g.k i) λc=>if uX g j i c then gq g x (i,c)else 0)+s*aB n λi=>aB (g.k i) (λc=>if uX g j i c then gs g x i (i,c)else 0)*d i:=by rw[<-gQ,<-bZ];refine aJ λi hi=>?_;rw[<-qC,<-gQ,<-bZ];grind[Go.Proofs.Ins.aJ,Go.Proofs.Ins.gs,Go.Proofs.Ins.gr]
 have a2:∀d'∈g.ds,dG g (bC x d s) j d'=dG g x j d'+s*aB n λi=>dM g x j i d'*d i:=λd' hd'=>by
  have hl:=λl hl=>um hg hd' (l:=l) hl;have hl2:∀l∈d'.2,l.2<g.k l.1:=λl hl=>(hg.fA l (cG.mpr ⟨d',hd',hl⟩)).2;have hok:=ho.d d' hd';have hcq:∀l,0<=iD n (gq g x) l:=λl=>by
   unfold iD;split
   .next h=>exact RF hg hx h
   .exact bo
  have hcr:∀l,0<=iD n (gr g x d) l:=λl=>by
   unfold iD;split
   .next h=>exact bX (rH (hg.nn _ h) (hx _ h) _) (hd _ h)
   .exact bo
  have hq0:(0:Rat)<d'.1->s*0<=d'.1-0:=λh=>by grind
  have b1:=acu (W:=d'.1) h0 hcr j d'.2 0 0 bo hq0 ((U7 d'.2 0 0 hl).mpr hok);have b2:og d'.1 (λl=>iD n (gq g x) l+s*iD n (gr g x d) l) (0+s*0) d'.2 j=og d'.1 (gq g (bC x d s)) 0 d'.2 j:=by
   have z:(0:Rat)+s*0=0:=by grind
   rw[z];clear b1 hok hq0;have:∀(t:List fM) (Q:Rat),(∀l∈t,l.1<n/\l.2<g.k l.1)->og d'.1 (λl=>iD n (gq g x) l+s*iD n (gr g x d) l) Q t j=og d'.1 (gq g (bC x d s)) Q t j:=by
    intro t;induction t with
    |nil=>intro Q _;rfl
    |cons l t ih=>
     intro Q h
     have h1:=h l kc
     have e:iD n (gq g x) l+s*iD n (gr g x d) l=gq g (bC x d s) l:=by rw[hq l h1.1 h1.2];unfold iD;rw[ab h1.1,ab h1.1]
     unfold og
     rw[e,ih _ λu hu=>h u (by simp[hu])]
   exact this d'.2 0 λl h=>⟨hl l h,hl2 l h⟩
  rw[b2,LP j _ _ hl,U6 j _ _ _ _ hl]at b1;have z0:nZ d'.1 0 0=0:=by unfold nZ;split<;>rfl
  rw[z0]at b1;have b3:jo d'.1 (gq g x) (gr g x d) 0 0 0 d'.2 j=aB n λi=>jo d'.1 (gq g x) (gs g x i) 0 0 0 d'.2 j*d i:=by
   have c:=acz (n:=n) (W:=d'.1) (q:=gq g x) d (gs g x) j d'.2 0 (λ_=>0) (λ_=>0);have z:aB n (λi=>0*d i)=0:=bD λi _=>by rw[Rat.zero_mul]
   rw[z]at c;rw[<-c];have:∀(t:List fM) (Q R B:Rat),(∀l∈t,l.1<n)->jo d'.1 (gq g x) (gr g x d) Q R B t j=jo d'.1 (gq g x) (λl=>aB n λi=>gs g x i l*d i) Q R B t j:=by
    intro t;induction t with
    |nil=>intro Q R B _;rfl
    |cons l t ih=>
     intro Q R B h
     unfold jo
     rw[aiD (h l kc),ih _ _ _ λu hu=>h u (by simp[hu])]
   exact this d'.2 0 0 0 hl
  have b4:aK d'.2 (gq g (bC x d s))=aK d'.2 (gq g x)+s*aK d'.2 (gr g x d):=by rw[<-yg,<-Ac];exact dR λl h=>hq l (hl l h) (hl2 l h)
  have b5:aK d'.2 (gr g x d)=aB n λi=>aK d'.2 (gs g x i)*d i:=by
   have:aB n (λi=>aK d'.2 (gs g x i)*d i)=aB n λi=>aK d'.2 λl=>gs g x i l*d i:=aJ λi _=>by rw[fS,<-yg];exact dR λl _=>fS _ _
   rw[this,qE d'.2 λl i=>gs g x i l*d i];exact dR λl h=>(aiD (hl l h)).symm
  have b6:0<=aK d'.2 (gr g x d):=nH λl h=>bX (rH (hg.nn _ (hl l h)) (hx _ (hl l h)) _) (hd _ (hl l h));have b7:=acv d'.2 0 0 hok (λh=>by grind);rw[gw,gw]at b7;have b8:=am3 (W:=d'.1) h0 b6 b7;have b9:aB n (λi=>(aK d'.2 (gs g x i)-nZ d'.1 (aK d'.2 (gq g x)) (aK d'.2 (gs g x i)))*d i)=aK d'.2 (gr g x d)-nZ d'.1 (aK d'.2 (gq g x)) (aK d'.2 (gr g x d)):=by rw[b5,acy,<-gK];exact aJ λi _=>by grind
  unfold dG dM;rw[b1,b3,b4,b8];by_cases e:F7 g d'=(j:Int)
  .simp only[ab e];have:aB n (λi=>(aK d'.2 (gs g x i)-nZ d'.1 (aK d'.2 (gq g x)) (aK d'.2 (gs g x i))+jo d'.1 (gq g x) (gs g x i) 0 0 0 d'.2 j)*d i)=aB n (λi=>(aK d'.2 (gs g x i)-nZ d'.1 (aK d'.2 (gq g x)) (aK d'.2 (gs g x i)))*d i)+aB n λi=>jo d'.1 (gq g x) (gs g x i) 0 0 0 d'.2 j*d i:=by rw[<-bZ];exact aJ λi _=>by rw[Rat.add_mul]
   rw[this,b9];grind
  .simp only[ae e];have:aB n (λi=>(0+jo d'.1 (gq g x) (gs g x i) 0 0 0 d'.2 j)*d i)=aB n λi=>jo d'.1 (gq g x) (gs g x i) 0 0 0 d'.2 j*d i:=aJ λi _=>by rw[gw]
   rw[this];grind
 have a3:aK g.ds (dG g (bC x d s) j)=aK g.ds (dG g x j)+s*aB n λi=>aK g.ds (dM g x j i)*d i:=by rw[dR a2,Ac,yg];congr 2;rw[<-qE g.ds λd' i=>dM g x j i d'*d i];refine aJ λi _=>?_;rw[fS,<-yg];exact dR λ_ _=>fS _ _
 have a4:mv n (gM n g x) d j=aB n (λi=>aB (g.k i) (λc=>if uX g j i c then gs g x i (i,c)else 0)*d i)+aB n λi=>aK g.ds (dM g x j i)*d i:=by rw[<-bZ];exact aJ λi _=>by unfold gM;rw[Rat.add_mul]
 grind[gG]
end
def l7(a:iI):List Nat:=(wK a).map Int.toNat
def E5(cs:List C5)(r:Nat):Nat->eH
 |0=>[]
 |k+1=>E5 cs r k++if(ix cs k).r=(r:Int)then [((k:Int),(ix cs k).a.q)]else []
def rkL(cs:List C5)(k:Nat):gW:=(List.range 8).map λr=>E5 cs r k
def lpS(s:(Nat->Rat)×eH)(x:AZ):(Nat->Rat)×eH:=
 if x.k=-1 then(s.1,s.2++[((-1:Int),x.a.q)])
 else((λi=>if i=x.k.toNat then s.1 i-(if x.b=true then jP (s.1 x.k.toNat) x.a.q else s.1 x.k.toNat)else s.1 i),s.2++[(x.k,if x.b=true then jP (s.1 x.k.toNat) x.a.q else s.1 x.k.toNat)])
def ltS(s:(Nat->Rat)×gW)(t:KG):(Nat->Rat)×gW:=((t.foldl lpS (s.1,[])).1,s.2++[(t.foldl lpS (s.1,[])).2])
def lsA(cs:List C5)(a:iI):(Nat->Rat)×gW:=a.foldl ltS ((λi:Nat=>(ix cs i).a.q),[])
def zG(ms:List Nat)(f:Nat->Rat):eH:=ms.map λi:Nat=>((i:Int),f i)
def sK(cs:List C5)(a:iI):List Nat×gW:=(l7 a,(lsA cs a).2++[zG (l7 a) (lsA cs a).1])
def dX(e:BR):fJ:=⟨rkL e.c e.c.length,e.a.map (sK e.c)⟩
structure Qh(P:Rat->Prop):Prop where
 min:∀a b,P a->P b->P (jP a b)
 sub:∀a b,P a->P b->P (a-jP a b)
 zero:P 0
def Qi(P:Rat->Prop)(n:Nat)(x:AZ):Prop:=(x.k=-1\/0<=x.k/\x.k<n)/\((x.k=-1\/x.b=true)->P x.a.q)
def Ah(P:Rat->Prop)(n:Nat)(t:eH):Prop:=∀p∈t,(p.1=-1\/0<=p.1/\p.1<n)/\P p.2
section
variable {P:Rat→Prop} {n:Nat}
def Ah.snoc{t:eH}(h:Ah P n t){p:Int×Rat}(h1:p.1=-1\/0<=p.1/\p.1<n)(h2:P p.2):Ah P n (t++[p]):=λq hq=>by
 rcases ck.mp hq with hq|hq
 .exact h q hq
 grind
def avR(hP:Qh P){s:(Nat->Rat)×eH}(h1:∀i,P (s.1 i))(h2:Ah P n s.2){x:AZ}(hx:Qi P n x):(∀i,P ((lpS s x).1 i))/\Ah P n (lpS s x).2:=by
 unfold lpS;by_cases e:x.k=-1
 .rw[ab e];exact⟨h1,h2.snoc (.inl rfl) (hx.2 (.inl e))⟩
 .rw[ae e];dsimp only;have self:P (s.1 x.k.toNat-s.1 x.k.toNat):=by rw[show s.1 x.k.toNat-s.1 x.k.toNat=0 by grind];exact hP.zero
  refine⟨λi=>?_,h2.snoc hx.1 ?_⟩
  .split
   .next e2=>
    rw[e2];split
    .next hb=>exact hP.sub _ _ (h1 _) (hx.2 (.inr hb))
    omega
   grind
  .dsimp only;split
   .next hb=>exact hP.min _ _ (h1 _) (hx.2 (.inr hb))
   grind
def aaC(hP:Qh P):∀(t:KG){s:(Nat->Rat)×eH},(∀i,P (s.1 i))->Ah P n s.2->(∀x∈t,Qi P n x)->(∀i,P ((t.foldl lpS s).1 i))/\Ah P n (t.foldl lpS s).2
 |[],_,h1,h2,_=>⟨h1,h2⟩
 |x::t,s,h1,h2,h=>by obtain⟨h3,h4⟩:=avR hP h1 h2 (h x kc);exact aaC hP t h3 h4 λy hy=>h y (by simp[hy])
def yj(P:Rat->Prop)(n:Nat)(l:gW):Prop:=∀t∈l,Ah P n t
def yj.snoc{l:gW}(h:yj P n l){t:eH}(ht:Ah P n t):yj P n (l++[t]):=λu hu=>by
 rcases ck.mp hu with hu|hu
 .exact h u hu
 grind
def aaD(hP:Qh P):∀(a:iI){s:(Nat->Rat)×gW},(∀i,P (s.1 i))->yj P n s.2->(∀t∈a,∀x∈t,Qi P n x)->(∀i,P ((a.foldl ltS s).1 i))/\yj P n (a.foldl ltS s).2
 |[],_,h1,h2,_=>⟨h1,h2⟩
 |t::a,s,h1,h2,h=>by obtain⟨h3,h4⟩:=aaC hP t (s:=(s.1,[])) h1 (λ_ h=>by cases h) (h t kc);exact aaD hP a (s:=ltS s t) h3 (h2.snoc h4) λu hu=>h u (by simp[hu])
def aiF(hP:Qh P){cs:List C5}{a:iI}(hc:∀i,P (ix cs i).a.q)(ha:∀t∈a,∀x∈t,Qi P n x):(∀i,P ((lsA cs a).1 i))/\yj P n (lsA cs a).2:=aaD hP a hc (λ_ h=>by cases h) ha
def uI{a:iI}(ha:∀t∈a,∀x∈t,x.k=-1\/0<=x.k/\x.k<n):∀c∈wK a,0<=c/\c<n:=λc hc=>by obtain⟨h1,h2⟩:=qV.mp hc;obtain⟨t,ht,hm⟩:=eQ.mp h2;obtain⟨x,hx,e⟩:=eQ.mp hm;grind
def yt{a:iI}(ha:∀t∈a,∀x∈t,x.k=-1\/0<=x.k/\x.k<n){i:Nat}:i∈l7 a↔Qa a (i:Int)=true:=by
 unfold l7;rw[cV];constructor
 .rintro⟨c,hc,rfl⟩;have h1:=uI ha c hc;rw[ff h1.1];exact(qV.mp hc).2
 .intro h;exact⟨i,qV.mpr ⟨jb,h⟩,by simp⟩
def aaE{a:iI}(ha:∀t∈a,∀x∈t,x.k=-1\/0<=x.k/\x.k<n):(l7 a).Nodup:=by unfold l7;rw[iS,List.pairwise_map];refine List.Pairwise.imp_of_mem (λ{x y} hx hy h=>?_) (abZ a);have:=uI ha x hx;omega
def acN(hP:Qh P){cs:List C5}{a:iI}(hc:∀i,P (ix cs i).a.q)(ha:∀t∈a,∀x∈t,Qi P n x):yj P n (sK cs a).2:=by obtain⟨h1,h2⟩:=aiF hP hc ha;refine h2.snoc λp hp=>?_;unfold zG at hp;obtain⟨i,hi,rfl⟩:=cV.mp hp;have:=(yt λt ht x hx=>(ha t ht x hx).1).mp hi;have h3:=uI (a:=a) (λt ht x hx=>(ha t ht x hx).1) i (qV.mpr ⟨jb,this⟩);grind
def OJ{cs:List C5}(hc:∀i,i<cs.length->P (ix cs i).a.q)(r:Nat):∀k,k<=cs.length->∀p∈E5 cs r k,(0<=p.1/\p.1<cs.length)/\P p.2
 |0,_,p,hp=>by cases hp
 |k+1,hk,p,hp=>by
  unfold E5 at hp;rcases ck.mp hp with hp|hp
  .exact OJ hc r k jb p hp
  grind
end
end Go.Proofs.Ins
