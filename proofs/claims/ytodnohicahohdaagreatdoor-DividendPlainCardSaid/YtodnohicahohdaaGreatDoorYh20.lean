import Derived.Test.YtodnohicahohdaaGreatDoorYh19
set_option linter.all false
set_option maxRecDepth 100000
namespace Go.Proofs.Xe
open Go.RowKit Go.Proofs.Ins
def clC(l:List C5):Nat->List B:=λk=>Ym (ix l k)
def mQ{α:Type}(l:List α)(b:Nat):B:=if l.length=0 then .aQ else .sl b 0 l.length .opn
def jm{α:Type}{l:List α}(h:0<l.length)(b:Nat):mQ l b=.sl b 0 l.length .opn:=ae jb
def Fb{α:Type}(l:List α)(b:Nat):lenV (.c (mQ l b))=some (jN l.length):=by
 by_cases h:l.length=0
 .unfold mQ;rw[ab h,h];rfl
 .rw[jm jb];rfl
def rE{α:Type}(l:List α)(b:Nat):(mQ l b).kn=true:=by
 by_cases h:l.length=0
 .unfold mQ;rw[ab h];rfl
 .rw[jm jb];rfl
def uw(m:Nat->Rat)(cl:Nat->List C5)(bs:Nat->Nat)(A:Nat->B):Nat->List B:=λi=>[.bool (rn (m i)),.str (rs (m i)),.str (rd (m i)),mQ (cl i) (bs i),A i]
def Qt(lo hi eb n:Nat)(cl:Nat->List C5)(bs:Nat->Nat)(b:Nat):Prop:=lo<=b/\b<hi/\b≠eb/\∀i,i<n->0<(cl i).length->b≠bs i
structure mX(h:Tr Bk)(dv:B)(n eb:Nat)(m:Nat->Rat)(cl:Nat->List C5)(bs:Nat->Nat)(A:Nat->B)(al:Nat->List fD)(dl:List oM)(lo hi:Nat):Prop where
 e:h eb=some ⟨bf n (uw m cl bs A),some (5,73)⟩
 elo:lo<=eb
 ehi:eb<hi
 c:∀i,i<n->0<(cl i).length->h (bs i)=some ⟨bf (cl i).length (clC (cl i)),some (5,77)⟩/\lo<=bs i/\bs i<hi/\bs i≠eb
 inj:∀i j,i<n->j<n->0<(cl i).length->0<(cl j).length->bs i=bs j->i=j
 a:∀i,i<n->iO (Qt lo hi eb n cl bs) h (A i) (al i)
 d:jF (Qt lo hi eb n cl bs) h dv dl
def iC(n:Nat)(m:Nat->Rat)(cl:Nat->List C5)(al:Nat->List fD):List yg:=(List.range n).map λi=>⟨sO (m i),cl i,al i⟩
def pG(n:Nat)(m:Nat->Rat)(cl:Nat->List C5)(al:Nat->List fD):(iC n m cl al).length=n:=by unfold iC;simp
def oq{n:Nat}(m:Nat->Rat)(cl:Nat->List C5)(al:Nat->List fD){i:Nat}(h:i<n):ix (iC n m cl al) i=⟨sO (m i),cl i,al i⟩:=by rw[dY (by rw[pG];exact h)];unfold iC;simp
section
variable {h h' : Tr Bk} {dv:B} {n eb:Nat} {m:Nat→Rat} {cl:Nat→List C5} {bs:Nat→Nat} {A:Nat→B} {al:Nat→List fD} {dl:List oM} {lo hi:Nat}
def iO.kn{p:Nat->Prop}{v:B}{l:List fD}(hl:iO p h v l):v.kn=true:=hl.choose_spec.1.kn
def jF.kn{p:Nat->Prop}{v:B}{l:List oM}(hl:jF p h v l):v.kn=true:=hl.choose_spec.1.kn
def EI.kn{p:Nat->Prop}{v:B}{l:List yg}(hl:EI p h v l):v.kn=true:=hl.choose_spec.choose_spec.1.kn
def mX.ekn(ho:mX h dv n eb m cl bs A al dl lo hi)(i:Nat)(hi':i<n):(uw m cl bs A i).all B.kn=true:=by unfold uw;simp only[cw,cY,rE,(ho.a i hi').kn,wB,AP,cG]
def mX.ldE(ho:mX h dv n eb m cl bs A al dl lo hi){i:Nat}(hi':i<n):ld h eb (0+i*5) 5 true=some (.agg (uw m cl bs A i)):=
 WU ho.e rfl (λ_=>rfl) jj ho.ekn hi'
def mX.ldC(ho:mX h dv n eb m cl bs A al dl lo hi){i:Nat}(hi':i<n):ld h eb (i*5+3) 1 false=some (.c (mQ (cl i) (bs i))):=by have:=rM (ho.ldE hi') 3 1 false jj jj;rw[cx]at this;rw[this];unfold uw zT;simp[rE]
def mX.ldA(ho:mX h dv n eb m cl bs A al dl lo hi){i:Nat}(hi':i<n):ld h eb (i*5+4) 1 false=some (.c (A i)):=by have:=rM (ho.ldE hi') 4 1 false jj jj;rw[cx]at this;rw[this];unfold uw zT;simp[(ho.a i hi').kn]
def mX.grp(ho:mX h dv n eb m cl bs A al dl lo hi)(c:Cap):jY (λb=>lo<=b/\b<hi) h (.sl eb 0 n c) dv ⟨iC n m cl al,dl⟩:=by
 refine⟨⟨λi=>mQ (cl i) (bs i),A,?_,λi hi'=>?_⟩,ho.d.keep (λ_ _=>rfl) λb hb=>⟨hb.1,hb.2.1⟩⟩
 .have h1:aZ (λb=>lo<=b/\b<hi) h 5 (.sl eb 0 n c) n (uw m cl bs A):=bK c ho.e rfl ⟨ho.elo,ho.ehi⟩ (λ_=>rfl) jj ho.ekn;have e:(iC n m cl al).length=n:=pG ..;show aZ _ h 5 _ (iC n m cl al).length _;rw[e];exact h1.congr λi hi'=>by rw[oq m cl al hi'];rfl
 .have hi':i<n:=by rw[<-pG n m cl al];exact hi'
  show lT _ h (mQ (cl i) (bs i)) (ix (iC n m cl al) i).c/\iO _ h (A i) (ix (iC n m cl al) i).a;rw[oq m cl al hi'];refine⟨?_,(ho.a i hi').keep (λ_ _=>rfl) λb hb=>⟨hb.1,hb.2.1⟩⟩;by_cases h0:(cl i).length=0
  .exact .inl ⟨h0,by unfold mQ;rw[ab h0]⟩
  .obtain⟨k1,k2,k3,-⟩:=ho.c i hi' jb;rw[jm jb];exact bK _ k1 rfl ⟨k2,k3⟩ (λ_=>rfl) jj λ_ _=>rfl
def mX.mono(ho:mX h dv n eb m cl bs A al dl lo hi)(hh:∀b,lo<=b->b<hi->h' b=h b){hi':Nat}(h2:hi<=hi'):mX h' dv n eb m cl bs A al dl lo hi' where
 e:=by rw[hh eb ho.elo ho.ehi];exact ho.e
 elo:=ho.elo
 ehi:=aE ho.ehi h2
 c:=λi h1 h3=>by obtain⟨k1,k2,k3,k4⟩:=ho.c i h1 h3;exact⟨by rw[hh _ k2 k3];exact k1,k2,jb,k4⟩
 inj:=ho.inj
 a:=λi h1=>(ho.a i h1).keep (λb hb=>hh b hb.1 hb.2.1) λb hb=>⟨hb.1,aE hb.2.1 h2,hb.2.2⟩
 d:=ho.d.keep (λb hb=>hh b hb.1 hb.2.1) λb hb=>⟨hb.1,aE hb.2.1 h2,hb.2.2⟩
end
section
variable {h h' : Tr Bk} {dv:B} {n eb:Nat} {m:Nat→Rat} {cl:Nat→List C5} {bs:Nat→Nat} {A:Nat→B} {al:Nat→List fD} {dl:List oM} {lo hi:Nat}
end
def aeH{E:Env}{a b:AC}{tm:Tr V}{J:St}{Q:AX->Tr V->St->Prop}(M:Tr V->St->Prop)(h1:bI E a tm J λe tm J=>e=.normal/\M tm J)(h2:∀tm' J',M tm' J'->bI E b tm' J' Q):bI E (.seq a b) tm J Q:=
 run_seq (h1.mono λe tm J' ⟨he,hm⟩=>by subst he;exact h2 _ _ hm)
structure NG{α:Type}[Inhabited α](h:Tr Bk)(n:Nat)(c:α->List B)(e ty:Nat)(L:Nat->List α)(bs:Nat->Nat)(lo hi:Nat):Prop where
 blk:∀i,i<n->0<(L i).length->h (bs i)=some ⟨bf (L i).length (λk=>c (ix (L i) k)),some (e,ty)⟩/\lo<=bs i/\bs i<hi
 inj:∀i j,i<n->j<n->0<(L i).length->0<(L j).length->bs i=bs j->i=j
section
variable {α:Type} [Inhabited α] {h h' : Tr Bk} {n e ty lo hi:Nat} {c:α→List B} {L:Nat→List α} {bs:Nat→Nat}
theorem NG.nil(h:Tr Bk)(n:Nat)(c:α->List B)(e ty:Nat)(bs:Nat->Nat)(lo hi:Nat):NG h n c e ty (λ_=>[]) bs lo hi:=⟨λi _ h=>by simp at h,λi j _ _ h=>by simp at h⟩
def NG.mono(hf:NG h n c e ty L bs lo hi)(hh:∀b,lo<=b->b<hi->h' b=h b){hi':Nat}(h2:hi<=hi'):NG h' n c e ty L bs lo hi':=
 ⟨λi hi hp=>by obtain⟨k1,k2,k3⟩:=hf.blk i hi hp;exact⟨by rw[hh _ k2 k3];exact k1,k2,jb⟩,hf.inj⟩
theorem gQ(l:List α)(x:α){k:Nat}(h:k<l.length):ix (l++[x]) k=ix l k:=by rw[UA,ab h]
theorem gU(l:List α)(x:α):ix (l++[x]) l.length=x:=by rw[UA,ae jb,ab rfl]
def NG.push(hf:NG h n c e ty L bs lo hi){i nx:Nat}(hi':i<n)(x:α){cells:List B}(hc:cells=bf (L i).length (λk=>c (ix (L i) k))++c x)(h1:h' nx=some ⟨cells,some (e,ty)⟩)
  (hh:∀j,j<n->j≠i->0<(L j).length->h' (bs j)=h (bs j)) (hlo:lo<=nx) (hnx:hi<=nx){hi2:Nat}(h2:nx<hi2):NG h' n c e ty (aO L i (L i++[x])) (aO bs i nx) lo hi2:=by
 refine⟨λj hj hp=>?_,λa b ha hb pa pb e=>?_⟩
 .by_cases e:j=i
  .subst e
   rw[aN,aN,az,bz]
   refine⟨?_,hlo,h2⟩
   rw[h1,hc,jA]
   congr 2
   refine bC λk hk=>?_
   unfold je
   split
   .next e=>rw[e,gU]
   .rw[gQ _ _ jb]
  .rw[aS _ _ _ _ e]at hp⊢
   rw[aS _ _ _ _ e]
   obtain⟨k1,k2,k3⟩:=hf.blk j hj hp
   exact⟨by rw[hh j hj e hp];exact k1,k2,jb⟩
 .by_cases e1:a=i
  .by_cases e2:b=i
   .rw[e1,e2]
   .rw[e1,aN,aS _ _ _ _ e2]at e
    rw[aS _ _ _ _ e2]at pb
    have:=(hf.blk b hb pb).2.2
    omega
  .by_cases e2:b=i
   .rw[e2,aN,aS _ _ _ _ e1]at e
    rw[aS _ _ _ _ e1]at pa
    have:=(hf.blk a ha pa).2.2
    omega
   .rw[aS _ _ _ _ e1]at pa
    rw[aS _ _ _ _ e2]at pb
    rw[aS _ _ _ _ e1,aS _ _ _ _ e2]at e
    exact hf.inj a b ha hb pa pb e
def NG.hlp(hf:NG h n c e ty L bs lo hi){p:Nat->Prop}(hp:∀b,lo<=b->b<hi->p b)(hc:∀x,(c x).length=e)(he:0<e)(hk:∀x,(c x).all B.kn=true){i:Nat}(hi':i<n):aZ p h e (mQ (L i) (bs i)) (L i).length λk=>c (ix (L i) k):=by
 by_cases h0:(L i).length=0
 .exact .inl ⟨h0,by unfold mQ;rw[ab h0]⟩
 .obtain⟨k1,k2,k3⟩:=hf.blk i hi' jb;rw[jm jb];exact bK _ k1 (by rw[DI _ _ jb]) (hp _ k2 k3) (λ_=>hc _) he λ_ _=>hk _
end
def iO.lt{J:St}(hW:WF J){p:Nat->Prop}{v:B}{l:List fD}(hl:iO p J.h v l):iO (Lt J.aj) J.h v l:=by obtain⟨T,k1,k2⟩:=hl;refine⟨T,k1.lt hW,λj hj=>?_⟩;obtain⟨U,m1,m2⟩:=k2 j hj;exact⟨U,m1.lt hW,λl hl=>(m2 l hl).lt hW⟩
theorem iO.fr{J J':St}(hW:WF J)(hf:Fr J J'){p:Nat->Prop}{v:B}{l:List fD}(hl:iO p J.h v l):iO (Lt J.aj) J'.h v l:=(hl.lt hW).keep hf.lt λ_ h=>h
def akY(al:List fD)(c:Int):Prop:=∀j,j<al.length->∀t,t<(ix al j).length->∀p,p<(ix (ix al j) t).length->(ix (ix (ix al j) t) p).k≠c
def avD(al:List fD):Prop:=al.length<=1000/\∀j,j<al.length->(ix al j).length<=1000/\∀t,t<(ix al j).length->(ix (ix al j) t).length<=1000
def avE{J:St}(hW:WF J){p:Nat->Prop}{x1 x2 x3 C A:B}(al:List fD)(hA:iO p J.h A al)(hl:avD al)(h1:x1.kn=true)(h2:x2.kn=true)(h3:x3.kn=true)(h4:C.kn=true)(c:Int):
  aB EN 75 [.agg [x1,x2,x3,C,A],.c (.int .i64 c)] J λr J'=>(∃b,r=.c (.bool b)/\(b=true->akY al c))/\Fr J J':=by
 refine aI (KZ.o _ _) KZ.h ?_
 unfold KZ
 dsimp only
 obtain⟨T,hT,hT2⟩:=hA
 have hlen:=hT.len
 have hkn:=hT.kn
 simp(disch:=try exact jz)only[go_sem,hkn,hlen]
 refine aG (λq tm J'=>∃j,q=al.length-j/\j<=al.length/\r8 tm 1=.c (.int .i64 c)/\r8 tm 12=.c A/\r8 tm 13=jN al.length/\r8 tm 14=jN j
  /\(∀j',j'<j->∀t,t<(ix al j').length->∀p,p<(ix (ix al j') t).length->(ix (ix (ix al j') t) p).k≠c)/\Fr J J') al.length ?_ ?_
 .refine⟨0,jb,jb,?_⟩
  refine WP ?_
  exact⟨λj hj=>jb,fr⟩
 .rintro q tm J' ⟨j,rfl,hj,t1,t12,t13,t14,hfree,hf⟩
  have hle:=hf.le
  have hl0:=hl.1
  simp(disch:=try exact jz)only[go_sem,t13,t14,aC]
  refine aH (λhlt=>?_) (λhlt=>?_)
  .obtain⟨b,o,cc,rfl,-,hld⟩:=hT.pos jb
   have hld:=hf.ld hW (hld j hlt)
   have hlk:=(rW hld).2
   have hTj:=hT2 j hlt
   obtain⟨hlj,aBW⟩:=hl.2 j hlt
   generalize hag:ix al j=ag at*
   obtain⟨U,hU,hU2⟩:=hTj
   have akZ:=hU.len
   simp(disch:=try exact jz)only[go_sem,t12,t14,hld,hlk,akZ]
   refine aG (λq tm σ3=>∃t,q=ag.length-t/\t<=ag.length/\r8 tm 1=.c (.int .i64 c)/\r8 tm 12=.c (.sl b o al.length cc)/\r8 tm 13=jN al.length/\r8 tm 14=jN j
    /\r8 tm 19=.c (T j)/\r8 tm 20=jN ag.length/\r8 tm 21=jN t
    /\(∀t',t'<t->∀p,p<(ix ag t').length->(ix (ix ag t') p).k≠c)/\Fr J σ3) ag.length ?_ ?_
   .refine⟨0,jb,jb,?_⟩
    refine W1 ?_
    exact⟨λt ht=>jb,fr⟩
   .rintro q tm3 σ3 ⟨t,rfl,ht,t1,t12,t13,t14,t19,t20,t21,ak0,hf3⟩
    simp(disch:=try exact jz)only[go_sem,t20,t21,aC]
    refine aH (λhlt3=>?_) (λhlt3=>?_)
    .obtain⟨b3,o3,c3,e3,-,vP⟩:=hU.pos jb
     have vP:=hf3.ld hW (vP t hlt3)
     have vP:=(rW vP).1
     have hPt:=hU2 t hlt3
     have hlt4:=aBW t hlt3
     generalize hti:ix ag t=ti at*
     have JG:=hPt.len
     rw[e3]at t19
     simp(disch:=try exact jz)only[go_sem,t19,t21,vP,JG]
     refine aG (λq tm σ5=>∃k,q=ti.length-k/\k<=ti.length/\r8 tm 1=.c (.int .i64 c)/\r8 tm 12=.c (.sl b o al.length cc)/\r8 tm 13=jN al.length/\r8 tm 14=jN j
      /\r8 tm 19=.c (.sl b3 o3 ag.length c3)/\r8 tm 20=jN ag.length/\r8 tm 21=jN t
      /\r8 tm 25=.c (U t)/\r8 tm 26=jN ti.length/\r8 tm 27=jN k
      /\(∀p,p<k->(ix ti p).k≠c)/\Fr J σ5) ti.length ?_ ?_
     .refine⟨0,jb,jb,?_⟩
      refine W1 ?_
      exact⟨λt ht=>jb,hf3⟩
     .rintro q tm5 σ5 ⟨k,rfl,hk,t1,t12,t13,t14,t19,t20,t21,t25,t26,t27,ak1,hf5⟩
      simp(disch:=try exact jz)only[go_sem,t26,t27,aC]
      refine aH (λaqb=>?_) (λaqb=>?_)
      .obtain⟨b5,o5,c5,e5,-,bD⟩:=hPt.pos jb
       have bD:=hf5.ld hW (bD k aqb)
       unfold AU at bD
       rw[e5]at t25
       have vS:=hf5.le
       simp(disch:=try exact jz)only[go_sem,t1,t25,t27,bD]
       refine aH (λhq=>?_) (λhq=>?_)
       .refine WN ?_
        exact⟨⟨_,rfl,λh=>by cases h⟩,fr⟩
       .refine W0 ?_
        refine⟨ti.length-(k+1),jb,k+1,rfl,jb,by rw[e5],rfl,λp hp=>?_,fr⟩
        by_cases e:p=k
        .rw[e];exact hq
        .exact ak1 p jb
      .have:k=ti.length:=jb
       subst this
       simp(disch:=try exact jz)only[go_sem,t1,t12,t13,t14,t19,t20,t21]
       refine⟨ag.length-(t+1),jb,t+1,rfl,jb,by rw[e3],rfl,λt' ht'=>?_,hf5⟩
       by_cases e:t'=t
       .rw[e,hti];exact ak1
       .exact ak0 t' jb
    .have:t=ag.length:=jb
     subst this
     simp(disch:=try exact jz)only[go_sem,t1,t12,t13,t14]
     refine⟨al.length-(j+1),jb,j+1,rfl,jb,rfl,λj' hj'=>?_,hf3⟩
     by_cases e:j'=j
     .rw[e,hag];exact ak0
     .exact hfree j' jb
  .have:j=al.length:=jb
   subst this
   refine WN ?_
   exact⟨⟨_,rfl,λ_=>hfree⟩,hf⟩
def NL(Q:(Nat->Prop)->Tr Bk->Nat->Prop)(h:Tr Bk)(v:B)(n:Nat)(G:Nat->List B)(e ty lo hi:Nat):Prop:=
 (n=0/\v=.aQ)\/(0<n/\∃b,v=.sl b 0 n .opn/\h b=some ⟨bf n G,some (e,ty)⟩/\lo<=b/\b<hi/\∀j,j<n->Q (λx=>lo<=x/\x<b) h j)
def QK(Q:(Nat->Prop)->Tr Bk->Nat->Prop)(j:Nat):Prop:=∀(p q:Nat->Prop) (h h':Tr Bk),Q p h j->(∀b,p b->h' b=h b)->(∀b,p b->q b)->Q q h' j
section
variable {Q:(Nat→Prop)→Tr Bk→Nat→Prop} {h h' : Tr Bk} {v:B} {n:Nat} {G G' : Nat→List B} {e ty lo hi:Nat}
theorem NL.nil:NL Q h .aQ 0 G e ty lo hi:=.inl ⟨rfl,rfl⟩
def NL.own(ho:NL Q h v n G e ty lo hi):fJ h v n G e ty lo hi:=by
 rcases ho with h1|⟨h0,b,rfl,h1,h2,h3,-⟩
 .exact .inl h1
 .exact .inr ⟨h0,b,rfl,h1,h2,h3⟩
def NL.mono(ho:NL Q h v n G e ty lo hi)(hQ:∀j,j<n->QK Q j)(hh:∀b,lo<=b->b<hi->h' b=h b){hi':Nat}(h2:hi<=hi'):NL Q h' v n G e ty lo hi':=by
 rcases ho with h1|⟨h0,b,rfl,k1,k2,k3,k4⟩
 .exact .inl h1
 .exact .inr ⟨h0,b,rfl,by grind,k2,jb,λj hj=>hQ j hj _ _ _ _ (k4 j hj) (λx hx=>hh x hx.1 jb) λx hx=>hx⟩
def NL.el(ho:NL Q h v n G e ty lo hi)(hQ:∀j,j<n->QK Q j){j:Nat}(hj:j<n):Q (λx=>lo<=x/\x<hi) h j:=by
 rcases ho with⟨h1,-⟩|⟨h0,b,rfl,k1,k2,k3,k4⟩
 .omega
 .exact hQ j hj _ _ _ _ (k4 j hj) (λ_ _=>rfl) λx hx=>⟨hx.1,jb⟩
def NL.push(ho:NL Q h v n G e ty lo hi)(hQ:∀j,j<=n->QK Q j){x:List B}{hi1 nx n':Nat}{h1:Tr Bk}(hx:Q (λb=>hi<=b/\b<hi1) h1 n)(hh:∀b,lo<=b->b<hi->h1 b=h b)(h2:hi<=hi1)(h3:hi1<=nx)(h4:nx<n')(h5:lo<=hi){cells:List B}(hc:cells=bf n G++x)
  (hb:h' nx=some ⟨cells,some (e,ty)⟩) (hk:∀b,lo<=b->b<hi1->(∀c m k,v=.sl c 0 m k->b≠c)->h' b=h1 b) (hg:∀i,i<n->G' i=G i) (hgn:G' n=x):NL Q h' (.sl nx 0 (n+1) .opn) (n+1) G' e ty lo n':=by
 refine .inr ⟨jb,nx,rfl,?_,jb,h4,λj hj=>?_⟩
 .grind[Go.Proofs.Xe.jA,Go.Proofs.Xe.bC,Go.Proofs.Xe.je]
 .by_cases e:j=n
  .subst e
   refine hQ j jb _ _ _ _ hx (λx hx=>hk x jb hx.2 λc m k e=>?_) λx hx=>⟨jb,jb⟩
   rcases ho with⟨-,rfl⟩|⟨-,b,rfl,-,-,k3,-⟩
   .cases e
   grind
  .rcases ho with⟨rfl,rfl⟩|⟨h0,b,rfl,k1,k2,k3,k4⟩
   .omega
   .exact hQ j jb _ _ _ _ (k4 j jb) (λx hx=>by grind) λx hx=>⟨hx.1,jb⟩
def NL.congr{Q':(Nat->Prop)->Tr Bk->Nat->Prop}(ho:NL Q h v n G e ty lo hi)(hQ:∀j,j<n->∀p h,Q p h j->Q' p h j)(hG:∀j,j<n->G j=G' j):NL Q' h v n G' e ty lo hi:=by
 rcases ho with h1|⟨h0,b,rfl,k1,k2,k3,k4⟩
 .exact .inl h1
 .exact .inr ⟨h0,b,rfl,by rw[k1,bC hG],k2,k3,λj hj=>hQ j hj _ _ (k4 j hj)⟩
def NL.down(ho:NL Q h v n G e ty lo hi)(hQ:∀j,j<n->QK Q j){lo2:Nat}(hl:lo2<=lo):NL Q h v n G e ty lo2 hi:=by
 rcases ho with h1|⟨h0,b,rfl,k1,k2,k3,k4⟩
 .exact .inl h1
 .exact .inr ⟨h0,b,rfl,k1,jb,k3,λj hj=>hQ j hj _ _ _ _ (k4 j hj) (λ_ _=>rfl) λx hx=>⟨jb,hx.2⟩⟩
def fJ.of{h:Tr Bk}{nx n:Nat}{G:Nat->List B}{e ty lo hi:Nat}(hb:h nx=some ⟨bf n G++G n,some (e,ty)⟩)(h1:lo<=nx)(h2:nx<hi):fJ h (.sl nx 0 (n+1) .opn) (n+1) G e ty lo hi:=by refine .inr ⟨jb,nx,rfl,?_,h1,h2⟩;grind[Go.Proofs.Xe.jA,Go.Proofs.Xe.bC,Go.Proofs.Xe.je]
end
section
variable {R:B→(Nat→Prop)→Tr Bk→Nat→Prop} {U:Nat→B} {h h' h1:Tr Bk} {v x:B} {n ty lo hi hi1 nx n' : Nat}
def NU(R:B->(Nat->Prop)->Tr Bk->Nat->Prop)(U:Nat->B)(h:Tr Bk)(v:B)(n ty lo hi:Nat):Prop:=NL (λp h j=>R (U j) p h j) h v n (λj=>[U j]) 1 ty lo hi
def RK(R:B->(Nat->Prop)->Tr Bk->Nat->Prop):Prop:=∀u j (p q:Nat->Prop) (h h':Tr Bk),R u p h j->(∀b,p b->h' b=h b)->(∀b,p b->q b)->R u q h' j
def NU.el(ho:NU R U h v n ty lo hi)(hR:RK R){j:Nat}(hj:j<n):R (U j) (λx=>lo<=x/\x<hi) h j:=NL.el ho (λj _=>hR (U j) j) hj
def NU.kn(ho:NU R U h v n ty lo hi):v.kn=true:=fJ.kn (NL.own ho)
def NU.cases(ho:NU R U h v n ty lo hi):(n=0/\v=.aQ)\/(0<n/\∃b,v=.sl b 0 n .opn/\h b=some ⟨bf n (λj=>[U j]),some (1,ty)⟩/\lo<=b/\b<hi):=NL.own ho
def NU.push(ho:NU R U h v n ty lo hi)(hR:RK R)(hx:R x (λb=>hi<=b/\b<hi1) h1 n)(hh:∀b,lo<=b->b<hi->h1 b=h b)(h2:hi<=hi1)(h3:hi1<=nx)(h4:nx<n')(h5:lo<=hi){cells:List B}(hc:cells=bf n (λj=>[U j])++[x])
  (hb:h' nx=some ⟨cells,some (1,ty)⟩) (hk:∀b,lo<=b->b<hi1->(∀c m k,v=.sl c 0 m k->b≠c)->h' b=h1 b):NU R (aO U n x) h' (.sl nx 0 (n+1) .opn) (n+1) ty lo n':=by
 have ho':NL (λp h j=>R (aO U n x j) p h j) h v n (λj=>[aO U n x j]) 1 ty lo hi:=NL.congr ho (λj hj p h hq=>by grind[aS]) λj hj=>by grind[aS]
 refine NL.push ho' (λj _=>hR (aO U n x j) j) (hi1:=hi1) (h1:=h1) (x:=[x]) (by grind[aN]) hh h2 h3 h4 h5 ?_ hb hk (λ_ _=>rfl) (by rw[aN])
 grind[bC,aS]
end
def rF{r:R3}{k:Nat}(h:r.fits k)(hk:k<=50000000):r.s.size+r.d.size<=130000000:=by have:=h.1;have:=h.2;omega
def avF{r:R3}{k:Nat}(h:r.fits k)(hk:k<=20000000):Sz r.q:=(acd r.n r.s r.d).mono (by have:=h.1;have:=h.2;unfold szK;omega)
def dQ.kn{p:Nat->Prop}{h:Tr Bk}{v:B}{l:fD}(hl:dQ p h v l):v.kn=true:=hl.choose_spec.1.kn
def iO.at{p:Nat->Prop}{h:Tr Bk}{v:B}{l:List fD}(hl:iO p h v l){j:Nat}(hj:j<l.length):∃b o c,v=.sl b o l.length c/\∃T:B,ld h b (o+j*1) 1 true=some (.agg [T])/\dQ p h T (ix l j):=by obtain⟨T,h1,h2⟩:=hl;obtain⟨b,o,c,e,-,hld⟩:=h1.pos jb;grind
def dQ.at{p:Nat->Prop}{h:Tr Bk}{v:B}{l:fD}(hl:dQ p h v l){j:Nat}(hj:j<l.length):∃b o c,v=.sl b o l.length c/\∃T:B,ld h b (o+j*1) 1 false=some (.c T)/\xw p h T (ix l j):=by obtain⟨T,h1,h2⟩:=hl;obtain⟨b,o,c,e,-,hld⟩:=h1.pos jb;exact⟨b,o,c,e,T j,(rW (hld j hj)).1,h2 j hj⟩
def iO.len{p:Nat->Prop}{h:Tr Bk}{v:B}{l:List fD}(hl:iO p h v l):lenV (.c v)=some (jN l.length):=hl.choose_spec.1.len
def dQ.len{p:Nat->Prop}{h:Tr Bk}{v:B}{l:fD}(hl:dQ p h v l):lenV (.c v)=some (jN l.length):=hl.choose_spec.1.len
def fJ.cases{h:Tr Bk}{v:B}{n:Nat}{G:Nat->List B}{e ty lo hi:Nat}(ho:fJ h v n G e ty lo hi):(n=0/\v=.aQ)\/(0<n/\∃b,v=.sl b 0 n .opn/\h b=some ⟨bf n G,some (e,ty)⟩/\lo<=b/\b<hi):=ho
def uy{e n:Nat}{G:Nat->List B}(hG:∀j,(G j).length=e):n*e<=(bf n G).length:=by grind[lS]
theorem dQ.fr{J J':St}(hW:WF J)(hf:Fr J J'){p:Nat->Prop}{v:B}{l:fD}(hl:dQ p J.h v l):dQ (Lt J.aj) J'.h v l:=by obtain⟨T,h1,h2⟩:=hl;exact⟨T,h1.fr hW hf,λi hi=>(h2 i hi).fr hW hf⟩
def clR(r:R3):R3:=sO r.q
def avG(x:yQ):yQ:=⟨x.k,x.b,clR x.a⟩
def Qy(x:C5):C5:=⟨x.h,x.r,clR x.a⟩
def aho(t:List yQ):List yQ:=t.map avG
def JH(a:fD):fD:=a.map aho
def acN(d:oM):oM:=⟨clR d.w,d.l⟩
def Lj{α β:Type}[Inhabited α][Inhabited β](f:α->β)(l:List α){i:Nat}(h:i<l.length):ix (l.map f) i=f (ix l i):=by rw[dY (by simpa using h),dY h];simp
section
variable {p:Nat→Prop} {h:Tr Bk} {v:B} {ty lo hi:Nat}
def fJ.parts{t:List yQ}(ho:fJ h v t.length (λk=>AU (avG (ix t k))) 5 ty lo hi)(hp:∀b,lo<=b->b<hi->p b):xw p h v (aho t):=by have:=ho.hlp (p:=p) (λ_=>rfl) jj (λ_ _=>rfl) hp;have hl:(aho t).length=t.length:=cg ..;unfold xw;rw[hl];exact this.congr λk hk=>by rw[aho,Lj _ _ hk]
def fJ.claims{c:List C5}(ho:fJ h v c.length (λk=>Ym (Qy (ix c k))) 5 ty lo hi)(hp:∀b,lo<=b->b<hi->p b):lT p h v (c.map Qy):=by have:=ho.hlp (p:=p) (λ_=>rfl) jj (λ_ _=>rfl) hp;have hl:(c.map Qy).length=c.length:=cg ..;unfold lT;rw[hl];exact this.congr λk hk=>by rw[Lj _ _ hk]
def RTi(a:fD)(u:B)(p:Nat->Prop)(h:Tr Bk)(t:Nat):Prop:=xw p h u (aho (ix a t))
def RAi(l:List fD)(u:B)(p:Nat->Prop)(h:Tr Bk)(j:Nat):Prop:=dQ p h u (JH (ix l j))
def aqc(a:fD):RK (RTi a):=λ_ _ _ _ _ _ hp hk hq=>aZ.keep hp hk hq
def aqd(l:List fD):RK (RAi l):=λ_ _ _ _ _ _ hp hk hq=>dQ.keep hp hk hq
def NU.aeu{U:Nat->B}{a:fD}(ho:NU (RTi a) U h v a.length ty lo hi):dQ (λb=>lo<=b/\b<hi) h v (JH a):=by
 have hl:(JH a).length=a.length:=cg ..;refine⟨U,?_,λt ht=>?_⟩
 .rw[hl];exact fJ.hlp (NL.own ho) (λ_=>rfl) jj (λt ht=>by simp only[cw,cY,aZ.kn (ho.el (aqc a) ht),cG]) λb h1 h2=>⟨h1,h2⟩
 .rw[hl]at ht;rw[JH,Lj _ _ ht];exact ho.el (aqc a) ht
def NU.aBX{T:Nat->B}{l:List fD}(ho:NU (RAi l) T h v l.length ty lo hi):iO (λb=>lo<=b/\b<hi) h v (l.map JH):=by
 have hl:(l.map JH).length=l.length:=cg ..;refine⟨T,?_,λt ht=>?_⟩
 .rw[hl];exact fJ.hlp (NL.own ho) (λ_=>rfl) jj (λt ht=>by simp only[cw,cY,dQ.kn (ho.el (aqd l) ht),cG]) λb h1 h2=>⟨h1,h2⟩
 .rw[hl]at ht;rw[Lj _ _ ht];exact ho.el (aqd l) ht
end
def Ol{J:St}(hW:WF J)(r:R3)(hr:r.fits 1000000):aB EN 297 [.agg [.bool r.n,.str r.s,.str r.d]] J λv J'=>v=rV r.q/\Fr J J':=by refine aI (jB.o _ _) jB.h ?_;unfold jB;dsimp only;have hq:=rF hr jj;have hz:=Sz.zero;have hz2:=hz.two;refine WN ?_;refine⟨?_,fr⟩;unfold rV rK;rw[da];rfl
end Go.Proofs.Xe
