import Derived.Test.YthkggcakedkboaaGreatDoorYa22
set_option linter.all false
set_option maxRecDepth 100000
namespace Go.Proofs.Xe
open Go.RowKit Go.Proofs.Ins
def clC(l:List C5):Nat->List B:=λk=>Uy (ix l k)
def lK{α:Type}(l:List α)(b:Nat):B:=if l.length=0 then .aX else .sl b 0 l.length .opn
def jd{α:Type}{l:List α}(h:0<l.length)(b:Nat):lK l b=.sl b 0 l.length .opn:=ae jb
def IK{α:Type}(l:List α)(b:Nat):lenV (.c (lK l b))=some (.c (.int .i64 (.ofNat l.length))):=by
 by_cases h:l.length=0
 .unfold lK;rw[ab h,h];rfl
 .rw[jd jb];rfl
def rE{α:Type}(l:List α)(b:Nat):(lK l b).kn=true:=by
 by_cases h:l.length=0
 .unfold lK;rw[ab h];rfl
 .rw[jd jb];rfl
def tX(m:Nat->Rat)(cl:Nat->List C5)(bs:Nat->Nat)(A:Nat->B):Nat->List B:=λi=>[.bool (rn (m i)),.str (rs (m i)),.str (rd (m i)),lK (cl i) (bs i),A i]
def Qt(lo hi eb n:Nat)(cl:Nat->List C5)(bs:Nat->Nat)(b:Nat):Prop:=lo<=b/\b<hi/\b≠eb/\∀i,i<n->0<(cl i).length->b≠bs i
structure uJ(h:Tr Bk)(dv:B)(n eb:Nat)(m:Nat->Rat)(cl:Nat->List C5)(bs:Nat->Nat)(A:Nat->B)(al:Nat->List gV)(dl:List uU)(lo hi:Nat):Prop where
 e:h eb=some ⟨bH n (tX m cl bs A),some (5,52)⟩
 elo:lo<=eb
 ehi:eb<hi
 c:∀i,i<n->0<(cl i).length->h (bs i)=some ⟨bH (cl i).length (clC (cl i)),some (5,55)⟩/\lo<=bs i/\bs i<hi/\bs i≠eb
 inj:∀i j,i<n->j<n->0<(cl i).length->0<(cl j).length->bs i=bs j->i=j
 a:∀i,i<n->iW (Qt lo hi eb n cl bs) h (A i) (al i)
 d:jT (Qt lo hi eb n cl bs) h dv dl
def jL(n:Nat)(m:Nat->Rat)(cl:Nat->List C5)(al:Nat->List gV):List zJ:=(List.range n).map λi=>⟨vS (m i),cl i,al i⟩
def pU(n:Nat)(m:Nat->Rat)(cl:Nat->List C5)(al:Nat->List gV):(jL n m cl al).length=n:=by unfold jL;simp
def wQ{n:Nat}(m:Nat->Rat)(cl:Nat->List C5)(al:Nat->List gV){i:Nat}(h:i<n):ix (jL n m cl al) i=⟨vS (m i),cl i,al i⟩:=by rw[dV (by rw[pU];exact h)];unfold jL;simp
section
variable {h h' : Tr Bk} {dv:B} {n eb:Nat} {m:Nat→Rat} {cl:Nat→List C5} {bs:Nat→Nat} {A:Nat→B} {al:Nat→List gV} {dl:List uU} {lo hi:Nat}
def iW.kn{p:Nat->Prop}{v:B}{l:List gV}(hl:iW p h v l):v.kn=true:=hl.choose_spec.1.kn
def jT.kn{p:Nat->Prop}{v:B}{l:List uU}(hl:jT p h v l):v.kn=true:=hl.choose_spec.1.kn
def CY.kn{p:Nat->Prop}{v:B}{l:List zJ}(hl:CY p h v l):v.kn=true:=hl.choose_spec.choose_spec.1.kn
def uJ.ekn(ho:uJ h dv n eb m cl bs A al dl lo hi)(i:Nat)(hi':i<n):(tX m cl bs A i).all B.kn=true:=by unfold tX;simp only[cO,eo,rE,(ho.a i hi').kn,Ar,FY,dy]
def uJ.ldE(ho:uJ h dv n eb m cl bs A al dl lo hi){i:Nat}(hi':i<n):ld h eb (0+i*5) 5 true=some (.agg (tX m cl bs A i)):=
 aiS ho.e rfl (λ_=>rfl) jj ho.ekn hi'
def uJ.ldC(ho:uJ h dv n eb m cl bs A al dl lo hi){i:Nat}(hi':i<n):ld h eb (i*5+3) 1 false=some (.c (lK (cl i) (bs i))):=by have:=og (ho.ldE hi') 3 1 false jj jj;rw[cM]at this;rw[this];unfold tX zI;simp[rE]
def uJ.ldA(ho:uJ h dv n eb m cl bs A al dl lo hi){i:Nat}(hi':i<n):ld h eb (i*5+4) 1 false=some (.c (A i)):=by have:=og (ho.ldE hi') 4 1 false jj jj;rw[cM]at this;rw[this];unfold tX zI;simp[(ho.a i hi').kn]
def uJ.grp(ho:uJ h dv n eb m cl bs A al dl lo hi)(c:Cap):sS (λb=>lo<=b/\b<hi) h (.sl eb 0 n c) dv ⟨jL n m cl al,dl⟩:=by
 refine⟨⟨λi=>lK (cl i) (bs i),A,?_,λi hi'=>?_⟩,ho.d.keep (λ_ _=>rfl) λb hb=>⟨hb.1,hb.2.1⟩⟩
 .have h1:aY (λb=>lo<=b/\b<hi) h 5 (.sl eb 0 n c) n (tX m cl bs A):=bD c ho.e rfl ⟨ho.elo,ho.ehi⟩ (λ_=>rfl) jj ho.ekn;have e:(jL n m cl al).length=n:=pU ..;show aY _ h 5 _ (jL n m cl al).length _;rw[e];exact h1.congr λi hi'=>by rw[wQ m cl al hi'];rfl
 .have hi':i<n:=by rw[<-pU n m cl al];exact hi'
  show oU _ h (lK (cl i) (bs i)) (ix (jL n m cl al) i).c/\iW _ h (A i) (ix (jL n m cl al) i).a;rw[wQ m cl al hi'];refine⟨?_,(ho.a i hi').keep (λ_ _=>rfl) λb hb=>⟨hb.1,hb.2.1⟩⟩;by_cases h0:(cl i).length=0
  .exact .inl ⟨h0,by unfold lK;rw[ab h0]⟩
  .obtain⟨k1,k2,k3,-⟩:=ho.c i hi' jb;rw[jd jb];exact bD _ k1 rfl ⟨k2,k3⟩ (λ_=>rfl) jj λ_ _=>rfl
def uJ.mono(ho:uJ h dv n eb m cl bs A al dl lo hi)(hh:∀b,lo<=b->b<hi->h' b=h b){hi':Nat}(h2:hi<=hi'):uJ h' dv n eb m cl bs A al dl lo hi' where
 e:=by rw[hh eb ho.elo ho.ehi];exact ho.e
 elo:=ho.elo
 ehi:=aL ho.ehi h2
 c:=λi h1 h3=>by obtain⟨k1,k2,k3,k4⟩:=ho.c i h1 h3;exact⟨by rw[hh _ k2 k3];exact k1,k2,jb,k4⟩
 inj:=ho.inj
 a:=λi h1=>(ho.a i h1).keep (λb hb=>hh b hb.1 hb.2.1) λb hb=>⟨hb.1,aL hb.2.1 h2,hb.2.2⟩
 d:=ho.d.keep (λb hb=>hh b hb.1 hb.2.1) λb hb=>⟨hb.1,aL hb.2.1 h2,hb.2.2⟩
end
section
variable {h h' : Tr Bk} {dv:B} {n eb:Nat} {m:Nat→Rat} {cl:Nat→List C5} {bs:Nat→Nat} {A:Nat→B} {al:Nat→List gV} {dl:List uU} {lo hi:Nat}
end
def ac4{E:Env}{a b:AC}{tm:Tr V}{σ:St}{Q:AX->Tr V->St->Prop}(M:Tr V->St->Prop)(h1:bI E a tm σ λe tm σ=>e=.normal/\M tm σ)(h2:∀tm' σ',M tm' σ'->bI E b tm' σ' Q):bI E (.seq a b) tm σ Q:=
 run_seq (h1.mono λe tm σ' ⟨he,hm⟩=>by subst he;exact h2 _ _ hm)
structure KJ{α:Type}[Inhabited α](h:Tr Bk)(n:Nat)(c:α->List B)(e ty:Nat)(L:Nat->List α)(bs:Nat->Nat)(lo hi:Nat):Prop where
 blk:∀i,i<n->0<(L i).length->h (bs i)=some ⟨bH (L i).length (λk=>c (ix (L i) k)),some (e,ty)⟩/\lo<=bs i/\bs i<hi
 inj:∀i j,i<n->j<n->0<(L i).length->0<(L j).length->bs i=bs j->i=j
section
variable {α:Type} [Inhabited α] {h h' : Tr Bk} {n e ty lo hi:Nat} {c:α→List B} {L:Nat→List α} {bs:Nat→Nat}
theorem KJ.nil(h:Tr Bk)(n:Nat)(c:α->List B)(e ty:Nat)(bs:Nat->Nat)(lo hi:Nat):KJ h n c e ty (λ_=>[]) bs lo hi:=⟨λi _ h=>by simp at h,λi j _ _ h=>by simp at h⟩
def KJ.mono(hf:KJ h n c e ty L bs lo hi)(hh:∀b,lo<=b->b<hi->h' b=h b){hi':Nat}(h2:hi<=hi'):KJ h' n c e ty L bs lo hi':=
 ⟨λi hi hp=>by obtain⟨k1,k2,k3⟩:=hf.blk i hi hp;exact⟨by rw[hh _ k2 k3];exact k1,k2,jb⟩,hf.inj⟩
theorem gu(l:List α)(x:α){k:Nat}(h:k<l.length):ix (l++[x]) k=ix l k:=by rw[QZ,ab h]
theorem gy(l:List α)(x:α):ix (l++[x]) l.length=x:=by rw[QZ,ae jb,ab rfl]
def KJ.push(hf:KJ h n c e ty L bs lo hi){i nx:Nat}(hi':i<n)(x:α){cells:List B}(hc:cells=bH (L i).length (λk=>c (ix (L i) k))++c x)(h1:h' nx=some ⟨cells,some (e,ty)⟩)
  (hh:∀j,j<n->j≠i->0<(L j).length->h' (bs j)=h (bs j)) (hlo:lo<=nx) (hnx:hi<=nx){hi2:Nat}(h2:nx<hi2):KJ h' n c e ty (aP L i (L i++[x])) (aP bs i nx) lo hi2:=by
 refine⟨λj hj hp=>?_,λa b ha hb pa pb e=>?_⟩
 .by_cases e:j=i
  .subst e
   rw[aO,aO,aD,bL]
   refine⟨?_,hlo,h2⟩
   rw[h1,hc,kY]
   congr 2
   refine bY λk hk=>?_
   unfold ji
   split
   .next e=>rw[e,gy]
   .rw[gu _ _ jb]
  .rw[aQ _ _ _ _ e]at hp⊢
   rw[aQ _ _ _ _ e]
   obtain⟨k1,k2,k3⟩:=hf.blk j hj hp
   exact⟨by rw[hh j hj e hp];exact k1,k2,jb⟩
 .by_cases e1:a=i
  .by_cases e2:b=i
   .rw[e1,e2]
   .rw[e1,aO,aQ _ _ _ _ e2]at e
    rw[aQ _ _ _ _ e2]at pb
    have:=(hf.blk b hb pb).2.2
    omega
  .by_cases e2:b=i
   .rw[e2,aO,aQ _ _ _ _ e1]at e
    rw[aQ _ _ _ _ e1]at pa
    have:=(hf.blk a ha pa).2.2
    omega
   .rw[aQ _ _ _ _ e1]at pa
    rw[aQ _ _ _ _ e2]at pb
    rw[aQ _ _ _ _ e1,aQ _ _ _ _ e2]at e
    exact hf.inj a b ha hb pa pb e
def KJ.hlp(hf:KJ h n c e ty L bs lo hi){p:Nat->Prop}(hp:∀b,lo<=b->b<hi->p b)(hc:∀x,(c x).length=e)(he:0<e)(hk:∀x,(c x).all B.kn=true){i:Nat}(hi':i<n):aY p h e (lK (L i) (bs i)) (L i).length λk=>c (ix (L i) k):=by
 by_cases h0:(L i).length=0
 .exact .inl ⟨h0,by unfold lK;rw[ab h0]⟩
 .obtain⟨k1,k2,k3⟩:=hf.blk i hi' jb;rw[jd jb];exact bD _ k1 (by rw[CQ _ _ jb]) (hp _ k2 k3) (λ_=>hc _) he λ_ _=>hk _
end
def iW.lt{σ:St}(hW:WF σ){p:Nat->Prop}{v:B}{l:List gV}(hl:iW p σ.h v l):iW (Lt σ.aj) σ.h v l:=by obtain⟨T,k1,k2⟩:=hl;refine⟨T,k1.lt hW,λj hj=>?_⟩;obtain⟨U,m1,m2⟩:=k2 j hj;exact⟨U,m1.lt hW,λl hl=>(m2 l hl).lt hW⟩
theorem iW.fr{σ σ':St}(hW:WF σ)(hf:Fr σ σ'){p:Nat->Prop}{v:B}{l:List gV}(hl:iW p σ.h v l):iW (Lt σ.aj) σ'.h v l:=(hl.lt hW).keep hf.lt λ_ h=>h
def aiU(al:List gV)(c:Int):Prop:=∀j,j<al.length->∀t,t<(ix al j).length->∀p,p<(ix (ix al j) t).length->(ix (ix (ix al j) t) p).k≠c
def asi(al:List gV):Prop:=al.length<=1000/\∀j,j<al.length->(ix al j).length<=1000/\∀t,t<(ix al j).length->(ix (ix al j) t).length<=1000
def asj{σ:St}(hW:WF σ){p:Nat->Prop}{x1 x2 x3 C A:B}(al:List gV)(hA:iW p σ.h A al)(hl:asi al)(h1:x1.kn=true)(h2:x2.kn=true)(h3:x3.kn=true)(h4:C.kn=true)(c:Int):
  aC EN 50 [.agg [x1,x2,x3,C,A],.c (.int .i64 c)] σ λr σ'=>(∃b,r=.c (.bool b)/\(b=true->aiU al c))/\Fr σ σ':=by
 refine aN (Js.o _ _) Js.h ?_
 unfold Js
 dsimp only
 obtain⟨T,hT,hT2⟩:=hA
 have hlen:=hT.len
 have hkn:=hT.kn
 simp(disch:=try exact jz) only[go_sem,z3,hkn,hlen]
 refine aF (λq tm σ'=>∃j,q=al.length-j/\j<=al.length/\Tr.ah tm 1=.c (.int .i64 c)/\Tr.ah tm 12=.c A/\Tr.ah tm 13=.c (.int .i64 (.ofNat al.length))/\Tr.ah tm 14=.c (.int .i64 (.ofNat j))
  /\(∀j',j'<j->∀t,t<(ix al j').length->∀p,p<(ix (ix al j') t).length->(ix (ix (ix al j') t) p).k≠c)/\Fr σ σ') al.length ?_ ?_
 .refine⟨0,jb,jb,?_⟩
  simp(disch:=try exact jz) only[go_sem,z3,am]
  exact⟨λj hj=>jb,fr⟩
 .rintro q tm σ' ⟨j,rfl,hj,t1,t12,t13,t14,hfree,hf⟩
  have hle:=hf.le
  have hl0:=hl.1
  simp(disch:=try exact jz) only[go_sem,z3,t1,t12,t13,t14,aG]
  refine aH (λhlt=>?_) (λhlt=>?_)
  .obtain⟨b,o,cc,rfl,-,hld⟩:=hT.pos jb
   have hld:=hf.ld hW (hld j hlt)
   have hlk:=(vK hld).2
   have hTj:=hT2 j hlt
   obtain⟨hlj,ayn⟩:=hl.2 j hlt
   generalize hag:ix al j=ag at*
   obtain⟨U,hU,hU2⟩:=hTj
   have aiV:=hU.len
   simp(disch:=try exact jz) only[go_sem,z3,t1,t12,t13,t14,hld,hlk,aiV]
   refine aF (λq tm σ3=>∃t,q=ag.length-t/\t<=ag.length/\Tr.ah tm 1=.c (.int .i64 c)/\Tr.ah tm 12=.c (.sl b o al.length cc)/\Tr.ah tm 13=.c (.int .i64 (.ofNat al.length))/\Tr.ah tm 14=.c (.int .i64 (.ofNat j))
    /\Tr.ah tm 19=.c (T j)/\Tr.ah tm 20=.c (.int .i64 (.ofNat ag.length))/\Tr.ah tm 21=.c (.int .i64 (.ofNat t))
    /\(∀t',t'<t->∀p,p<(ix ag t').length->(ix (ix ag t') p).k≠c)/\Fr σ σ3) ag.length ?_ ?_
   .refine⟨0,jb,jb,?_⟩
    simp(disch:=try exact jz) only[go_sem,z3,t1,t12,t13,t14,am]
    exact⟨λt ht=>jb,fr⟩
   .rintro q tm3 σ3 ⟨t,rfl,ht,t1,t12,t13,t14,t19,t20,t21,aiW,hf3⟩
    simp(disch:=try exact jz) only[go_sem,z3,t1,t12,t13,t14,t19,t20,t21,aG]
    refine aH (λhlt3=>?_) (λhlt3=>?_)
    .obtain⟨b3,o3,c3,e3,-,pR⟩:=hU.pos jb
     have pR:=hf3.ld hW (pR t hlt3)
     have pR:=(vK pR).1
     have hPt:=hU2 t hlt3
     have hlt4:=ayn t hlt3
     generalize hti:ix ag t=ti at*
     have OJ:=hPt.len
     rw[e3]at t19
     simp(disch:=try exact jz) only[go_sem,z3,t1,t12,t13,t14,t19,t20,t21,pR,OJ]
     refine aF (λq tm σ5=>∃k,q=ti.length-k/\k<=ti.length/\Tr.ah tm 1=.c (.int .i64 c)/\Tr.ah tm 12=.c (.sl b o al.length cc)/\Tr.ah tm 13=.c (.int .i64 (.ofNat al.length))/\Tr.ah tm 14=.c (.int .i64 (.ofNat j))
      /\Tr.ah tm 19=.c (.sl b3 o3 ag.length c3)/\Tr.ah tm 20=.c (.int .i64 (.ofNat ag.length))/\Tr.ah tm 21=.c (.int .i64 (.ofNat t))
      /\Tr.ah tm 25=.c (U t)/\Tr.ah tm 26=.c (.int .i64 (.ofNat ti.length))/\Tr.ah tm 27=.c (.int .i64 (.ofNat k))
      /\(∀p,p<k->(ix ti p).k≠c)/\Fr σ σ5) ti.length ?_ ?_
     .refine⟨0,jb,jb,?_⟩
      simp(disch:=try exact jz) only[go_sem,z3,t1,t12,t13,t14,t19,t20,t21,am]
      exact⟨λt ht=>jb,hf3⟩
     .rintro q tm5 σ5 ⟨k,rfl,hk,t1,t12,t13,t14,t19,t20,t21,t25,t26,t27,aiX,hf5⟩
      simp(disch:=try exact jz) only[go_sem,z3,t1,t12,t13,t14,t19,t20,t21,t25,t26,t27,aG]
      refine aH (λanu=>?_) (λanu=>?_)
      .obtain⟨b5,o5,c5,e5,-,bF⟩:=hPt.pos jb
       have bF:=hf5.ld hW (bF k anu)
       unfold Az at bF
       rw[e5]at t25
       have uM:=hf5.le
       simp(disch:=try exact jz) only[go_sem,z3,t1,t12,t13,t14,t19,t20,t21,t25,t26,t27,bF]
       refine aH (λhq=>?_) (λhq=>?_)
       .simp(disch:=try exact jz) only[go_sem,z3,t1]
        exact⟨⟨_,rfl,λh=>by cases h⟩,fr⟩
       .simp(disch:=try exact jz) only[go_sem,z3,t1,t12,t13,t14,t19,t20,t21,t25,t26,t27]
        refine⟨ti.length-(k+1),jb,k+1,rfl,jb,by rw[e5],rfl,λp hp=>?_,fr⟩
        by_cases e:p=k
        .rw[e];exact hq
        .exact aiX p jb
      .have:k=ti.length:=jb
       subst this
       simp(disch:=try exact jz) only[go_sem,z3,t1,t12,t13,t14,t19,t20,t21]
       refine⟨ag.length-(t+1),jb,t+1,rfl,jb,by rw[e3],rfl,λt' ht'=>?_,hf5⟩
       by_cases e:t'=t
       .rw[e,hti];exact aiX
       .exact aiW t' jb
    .have:t=ag.length:=jb
     subst this
     simp(disch:=try exact jz) only[go_sem,z3,t1,t12,t13,t14]
     refine⟨al.length-(j+1),jb,j+1,rfl,jb,rfl,λj' hj'=>?_,hf3⟩
     by_cases e:j'=j
     .rw[e,hag];exact aiW
     .exact hfree j' jb
  .have:j=al.length:=jb
   subst this
   simp(disch:=try exact jz) only[go_sem,z3,t1]
   exact⟨⟨_,rfl,λ_=>hfree⟩,hf⟩
def QK(Q:(Nat->Prop)->Tr Bk->Nat->Prop)(j:Nat):Prop:=∀(p q:Nat->Prop) (h h':Tr Bk),Q p h j->(∀b,p b->h' b=h b)->(∀b,p b->q b)->Q q h' j
section
variable {Q:(Nat→Prop)→Tr Bk→Nat→Prop} {h h' : Tr Bk} {v:B} {n:Nat} {G G' : Nat→List B} {e ty lo hi:Nat}
end
section
variable {R:B→(Nat→Prop)→Tr Bk→Nat→Prop} {U:Nat→B} {h h' h1:Tr Bk} {v x:B} {n ty lo hi hi1 nx n' : Nat}
end
def rF{r:R3}{k:Nat}(h:r.fits k)(hk:k<=50000000):r.s.size+r.d.size<=130000000:=by have:=h.1;have:=h.2;omega
def dZ.kn{p:Nat->Prop}{h:Tr Bk}{v:B}{l:gV}(hl:dZ p h v l):v.kn=true:=hl.choose_spec.1.kn
def iW.at{p:Nat->Prop}{h:Tr Bk}{v:B}{l:List gV}(hl:iW p h v l){j:Nat}(hj:j<l.length):∃b o c,v=.sl b o l.length c/\∃T:B,ld h b (o+j*1) 1 true=some (.agg [T])/\dZ p h T (ix l j):=by obtain⟨T,h1,h2⟩:=hl;obtain⟨b,o,c,e,-,hld⟩:=h1.pos jb;grind
def dZ.at{p:Nat->Prop}{h:Tr Bk}{v:B}{l:gV}(hl:dZ p h v l){j:Nat}(hj:j<l.length):∃b o c,v=.sl b o l.length c/\∃T:B,ld h b (o+j*1) 1 false=some (.c T)/\CW p h T (ix l j):=by obtain⟨T,h1,h2⟩:=hl;obtain⟨b,o,c,e,-,hld⟩:=h1.pos jb;exact⟨b,o,c,e,T j,(vK (hld j hj)).1,h2 j hj⟩
def iW.len{p:Nat->Prop}{h:Tr Bk}{v:B}{l:List gV}(hl:iW p h v l):lenV (.c v)=some (.c (.int .i64 (.ofNat l.length))):=hl.choose_spec.1.len
def dZ.len{p:Nat->Prop}{h:Tr Bk}{v:B}{l:gV}(hl:dZ p h v l):lenV (.c v)=some (.c (.int .i64 (.ofNat l.length))):=hl.choose_spec.1.len
theorem dZ.fr{σ σ':St}(hW:WF σ)(hf:Fr σ σ'){p:Nat->Prop}{v:B}{l:gV}(hl:dZ p σ.h v l):dZ (Lt σ.aj) σ'.h v l:=by obtain⟨T,h1,h2⟩:=hl;exact⟨T,h1.fr hW hf,λi hi=>(h2 i hi).fr hW hf⟩
structure NF(Q:(Nat->Prop)->Tr Bk->Nat->Prop)(h:Tr Bk)(b n:Nat)(G:Nat->List B)(e ty lo hi:Nat):Prop where
 g:x9 n h b=gF n G e ty
 L:LG G e
 l1:lo<=b
 l2:n=0\/b<hi
 q:∀j,j<n->Q (λx=>lo<=x/\x<b) h j
def NoQ(_:Nat->Prop)(_:Tr Bk)(_:Nat):Prop:=True
def Kz(j:Nat):QK NoQ j:=λ_ _ _ _ h _ _=>h
section
variable {Q Q' : (Nat→Prop)→Tr Bk→Nat→Prop} {h h' : Tr Bk} {b n:Nat} {G G' : Nat→List B} {e ty lo hi:Nat}
theorem NF.nil(hL:LG G e):NF Q h lo 0 G e ty lo hi:=⟨rfl,hL,jp,.inl rfl,λ_ h=>jb⟩
def NF.own(ho:NF Q h b n G e ty lo hi):tN h (aU n b) n G e ty lo hi:=by
 obtain⟨g,L,h1,h2,-⟩:=ho;cases n with
 |zero=>exact .inl ⟨rfl,rfl⟩
 |succ n=>exact .inr ⟨jb,b,rfl,g,h1,jb⟩
def NF.hlp(ho:NF Q h b n G e ty lo hi)(he:0<e)(hk:∀j,j<n->(G j).all B.kn=true){p:Nat->Prop}(hp:∀b,lo<=b->b<hi->p b):aY p h e (aU n b) n G:=tN.hlp ho.own ho.L he hk hp
def NF.mono(ho:NF Q h b n G e ty lo hi)(hQ:∀j,j<n->QK Q j)(hh:∀b,lo<=b->b<hi->h' b=h b){hi':Nat}(h2:hi<=hi'):NF Q h' b n G e ty lo hi':=by have h3:=ho.l1;have h4:=ho.l2;refine⟨?_,ho.L,ho.l1,jb,λj hj=>hQ j hj _ _ _ _ (ho.q j hj) (λx hx=>hh x hx.1 jb) λx hx=>hx⟩;rw[wE,ho.g];grind
def NF.el(ho:NF Q h b n G e ty lo hi)(hQ:∀j,j<n->QK Q j){j:Nat}(hj:j<n):Q (λx=>lo<=x/\x<hi) h j:=by have h4:=ho.l2;exact hQ j hj _ _ _ _ (ho.q j hj) (λ_ _=>rfl) λx hx=>⟨hx.1,jb⟩
def NF.push(ho:NF Q h b n G e ty lo hi)(hQ:∀j,j<=n->QK Q' j)(hQQ:∀j,j<n->∀p h,Q p h j->Q' p h j){hi1 nx n':Nat}{h1:Tr Bk}(hx:Q' (λb=>hi<=b/\b<hi1) h1 n)(hh:∀b,lo<=b->b<hi->h1 b=h b)(h2:hi<=hi1)(h3:hi1<=nx)(h4:nx<n')(h5:lo<=hi)
  {x:List B}(hb:h' nx=some ⟨bH n G++x,some (e,ty)⟩) (hgn:x=G' n) (hk:∀c,lo<=c->c<hi1->n=0\/c≠b->h' c=h1 c) (hg:∀i,i<n->G' i=G i) (hL:LG G' e):NF Q' h' nx (n+1) G' e ty lo n':=by
 obtain⟨g,-,l1,l2,q⟩:=ho
 refine⟨?_,hL,jb,jb,λj hj=>?_⟩
 .show h' nx=some _
  grind[Go.Proofs.Xe.kY,Go.Proofs.Xe.bY,Go.Proofs.Xe.ji]
 .by_cases e:j=n
  .subst e
   exact hQ j jb _ _ _ _ hx (λx hx=>hk x jb hx.2 jb) λx hx=>⟨jb,jb⟩
  .exact hQ j jb _ _ _ _ (hQQ j jb _ _ (q j jb)) (λx hx=>by grind) λx hx=>⟨hx.1,jb⟩
end
def yK(p:Nat->Prop)(h:Tr Bk)(v:B)(l:fU):Prop:=
 ∃G:Nat->B,aY p h 4 v l.length (λi=>jV (G i) (aV (ix l i)))/\amD v/\∀i,i<l.length->aY p h 4 (G i) (ix l i).length λj=>zX (ix (ix l i) j)
def aaR(p:Nat->Prop)(h:Tr Bk)(v:B)(ms:List Nat):Prop:=aY p h 1 v ms.length λi=>[Qd ms i]
structure yL(p:Nat->Prop)(h:Tr Bk)(rv pv:B)(e:fA):Prop where
 rk:yK p h rv e.rk
 ps:∃Gm Gl:Nat->B,aY p h 2 pv e.ps.length (λi=>[Gm i,Gl i])/\∀i,i<e.ps.length->aaR p h (Gm i) (ix e.ps i).1/\yK p h (Gl i) (ix e.ps i).2
section
variable {p q:Nat→Prop} {h h' : Tr Bk} {v rv pv:B} {l:fU} {ms:List Nat} {e:fA}
def yK.lad(hl:yK p h v l):IC h v l:=by obtain⟨G,h1,h2,h3⟩:=hl;exact⟨G,h1.hl,h2,λi hi=>(h3 i hi).hl⟩
def yK.keep(hl:yK p h v l)(hk:∀b,p b->h' b=h b)(hp:∀b,p b->q b):yK q h' v l:=by obtain⟨G,h1,h2,h3⟩:=hl;exact⟨G,h1.keep hk hp,h2,λi hi=>(h3 i hi).keep hk hp⟩
def yK.kn(hl:yK p h v l):v.kn=true:=hl.choose_spec.1.kn
def aaR.hc(hl:aaR p h v ms):HC h v ms.length (Qd ms):=by
 by_cases h0:0<ms.length
 .obtain⟨b,o,c,e,hld⟩:=HL.one (aY.hl hl) h0;exact .inr ⟨b,o,c,e,hld⟩
 .rcases aY.hl hl with h1|⟨b,o,c,e,-⟩
  .exact .inl h1
  .exact .inr ⟨b,o,c,e,λi hi=>jb⟩
def yL.lay(hl:yL p h rv pv e):JG h rv pv e:=by obtain⟨h1,Gm,Gl,h2,h3⟩:=hl;exact⟨h1.lad,Gm,Gl,h2.hl,λi hi=>⟨(h3 i hi).1.hc,(h3 i hi).2.lad⟩⟩
def yL.keep(hl:yL p h rv pv e)(hk:∀b,p b->h' b=h b)(hp:∀b,p b->q b):yL q h' rv pv e:=by obtain⟨h1,Gm,Gl,h2,h3⟩:=hl;exact⟨h1.keep hk hp,Gm,Gl,h2.keep hk hp,λi hi=>⟨aY.keep (h3 i hi).1 hk hp,(h3 i hi).2.keep hk hp⟩⟩
def yL.V4(hl:yL p h rv pv e):pv.kn=true:=by obtain⟨-,Gm,Gl,h2,-⟩:=hl;exact h2.kn
end
def OL(h:Tr Bk)(bs:Nat)(t:dJ):Prop:=x9 t.length h bs=gF t.length (λj=>zX (ix t j)) 4 203
def OL.hlp{p:Nat->Prop}{h:Tr Bk}{bs:Nat}{t:dJ}(ho:OL h bs t)(hp:t.length=0\/p bs):aY p h 4 (aU t.length bs) t.length λj=>zX (ix t j):=by
 unfold OL at ho;generalize t.length=n at*;cases n with
 |zero=>exact .inl ⟨rfl,rfl⟩
 |succ n=>exact bD _ ho rfl (hp.resolve_left jb) (λ_=>rfl) jj λ_ _=>rfl
def Ru(t:dJ)(p:Int×Rat):aV (t++[p])=aV t+p.2:=by
 induction t with
 |nil=>show p.2+0=0+p.2;grind
 |cons q t ih=>grind[aV]
structure lM(h:Tr Bk)(n:Nat)(k:Nat->Nat)(C:Nat->Nat->List B)(bs:Nat->Nat)(lo hi:Nat):Prop where
 r:∀i,i<n->h (bs i)=some ⟨bH (k i) (C i),none⟩/\lo<=bs i/\bs i<hi
 inj:∀i j,i<n->j<n->bs i=bs j->i=j
def yc(k bs:Nat->Nat)(i:Nat):B:=.sl (bs i) 0 (k i) (.ex (k i))
section
variable {h h' : Tr Bk} {n lo hi:Nat} {k bs:Nat→Nat} {C:Nat→Nat→List B}
theorem lM.nil(h:Tr Bk)(k:Nat->Nat)(C:Nat->Nat->List B)(bs:Nat->Nat)(lo hi:Nat):lM h 0 k C bs lo hi:=⟨λi hi=>jb,λi j hi=>jb⟩
def lM.mono(ho:lM h n k C bs lo hi)(hh:∀b,lo<=b->b<hi->h' b=h b){lo' hi':Nat}(h1:lo'<=lo)(h2:hi<=hi'):lM h' n k C bs lo' hi':=
 ⟨λi hi=>by obtain⟨k1,k2,k3⟩:=ho.r i hi;grind,ho.inj⟩
def lM.mono'(ho:lM h n k C bs lo hi)(hh:∀i,i<n->h' (bs i)=h (bs i)){lo' hi':Nat}(h1:lo'<=lo)(h2:hi<=hi'):lM h' n k C bs lo' hi':=
 ⟨λi hi=>by obtain⟨k1,k2,k3⟩:=ho.r i hi;grind,ho.inj⟩
def lM.congr{C':Nat->Nat->List B}(ho:lM h n k C bs lo hi)(hc:∀i,i<n->∀c,c<k i->C i c=C' i c):lM h n k C' bs lo hi:=
 ⟨λi hi=>by obtain⟨k1,k2,k3⟩:=ho.r i hi;grind[bY],ho.inj⟩
def lM.push(ho:lM h n k C bs lo hi){nb:Nat}{c:List B}(hb:h' nb=some ⟨c,none⟩)(hc:c=bH (k n) (C n))(hn:hi<=nb){hi':Nat}(h2:nb<hi')(hl:lo<=nb)(hh:∀b,lo<=b->b<hi->(∃i,i<n/\b=bs i)->h' b=h b):lM h' (n+1) k C (aP bs n nb) lo hi':=by
 refine⟨λi hi1=>?_,λi j hi1 hj e=>?_⟩
 .by_cases e:i=n
  .grind[aO]
  .obtain⟨k1,k2,k3⟩:=ho.r i jb;grind[aQ]
 .by_cases e1:i=n<;>by_cases e2:j=n
  .omega
  .exfalso;rw[e1,aO,aQ _ _ _ _ e2]at e;have:=(ho.r j jb).2.2;omega
  .exfalso;rw[e2,aO,aQ _ _ _ _ e1]at e;have:=(ho.r i jb).2.2;omega
  .rw[aQ _ _ _ _ e1,aQ _ _ _ _ e2]at e;exact ho.inj i j jb jb e
def rH(C:Nat->Nat->List B)(i c:Nat)(x:List B):Nat->Nat->List B:=λi' c'=>if i'=i/\c'=c then x else C i' c'
def lM.set(ho:lM h n k C bs lo hi){i c:Nat}{x l:List B}(hi1:i<n)(hl:l=bH (k i) (ji (C i) c x)):lM (hset h (bs i) ⟨l,none⟩) n k (rH C i c x) bs lo hi:=by
 refine⟨λj hj=>?_,ho.inj⟩;obtain⟨k1,k2,k3⟩:=ho.r j hj;by_cases e:j=i
 .grind[Go.Proofs.Xe.aA,Go.Proofs.Xe.bY,Go.Proofs.Xe.ji,Go.Proofs.Xe.rH]
 .rw[au _ _ _ _ (λe2=>e (ho.inj j i hj hi1 e2)),k1];grind[Go.Proofs.Xe.bY,Go.Proofs.Xe.rH]
def lM.hlp(ho:lM h n k C bs lo hi){p:Nat->Prop}{e:Nat}(hp:∀b,lo<=b->b<hi->p b)(he:0<e)(hC:∀i c,(C i c).length=e)(hk:∀i c,i<n->c<k i->(C i c).all B.kn=true){i:Nat}(hi1:i<n):aY p h e (yc k bs i) (k i) (C i):=by obtain⟨k1,k2,k3⟩:=ho.r i hi1;exact bD _ k1 rfl (hp _ k2 k3) (hC i) he λc hc=>hk i c hi1 hc
end
def afr(G:Nat->List B)(i:Nat)(a b:List B):ji (ji G i a) i b=ji G i b:=by grind[ji]
def X6{G:Nat->List B}{e i:Nat}{x:List B}(hG:∀j,(G j).length=e)(hx:x.length=e)(j:Nat):(ji G i x j).length=e:=by grind[ji]
def ac5(G:Nat->List B)(i:Nat)(x:List B):ji G i x i=x:=ab rfl
def anv(t:dJ):LG (λj=>zX (ix t j)) 4:=λ_=>rfl
def aiY{σ:St}(hW:WF σ){b n r:Nat}{G:Nat->List B}{o:Option (Nat×Nat)}(hb:σ.h b=some ⟨bH n G,o⟩)(hr:r<n)(hG:∀j,(G j).length=4)(hpl:plo o=true)(hrd:Zo o=true){t:dJ}{bs:Nat}(hGr:G r=jV (aU t.length bs) (aV t))(hT:OL σ.h bs t)(hne:t.length=0\/bs≠b)(hbs:t.length=0\/bs<σ.aj)(hl:t.length<=1000000)(k:Int)(q:Rat)(hs:Sz (aV t))(hq:Sz q):
  aC EN 93 [.c (.ptr b (r*4)),.c (.int .i64 k),.agg [.bool (rn q),.str (rs q),.str (rd q)]] σ λ_ σ'=>∃nx,σ.aj<=nx/\nx<σ'.aj/\σ'.h b=some ⟨bH n (ji G r (jV (.sl nx 0 (t.length+1) .opn) (aV t+q))),o⟩/\σ'.h nx=some ⟨bH t.length (λj=>zX (ix t j))++zX (k,q),some (4,203)⟩/\aT [b,bs] σ σ':=by
 refine aN (nM.o _ _) nM.h ?_
 unfold nM
 dsimp only
 have hbl:=hW.lt hb
 have hFr:=Fr.refl hW
 have l0:ld σ.h b (r*4) 1 false=some (.c (aU t.length bs)):=by have:=yT (k:=0) (m:=1) false hG hr jj jj;rw[cD,hGr]at this;rw[ak hb,NV];dsimp only;rw[hrd,cB,this];unfold jV zI;simp[Lj]
 have w0:∀x:B,yw (bH n G) (r*4) [x]=some (bH n (ji G r (jV x (aV t)))):=λx=>by have:=Au (k:=0) (vs:=[x]) hG hr kc;rw[cD]at this;rw[this,hGr];rfl
 have r1:∀x:B,zI (bH n (ji G r (jV x (aV t)))) (r*4+1) 3 true=some (.agg [.bool (rn (aV t)),.str (rs (aV t)),.str (rd (aV t))]):=λx=>by have:=yT (k:=1) (m:=3) (G:=ji G r (jV x (aV t))) true (X6 hG rfl) hr jj jj;rw[this,ac5];rfl
 have w1:∀x a c d:B,yw (bH n (ji G r (jV x (aV t)))) (r*4+1) [a,c,d]=some (bH n (ji G r [x,a,c,d])):=λx a c d=>by have:=Au (k:=1) (vs:=[a,c,d]) (G:=ji G r (jV x (aV t))) (X6 hG rfl) hr kc;rw[this,ac5,<-afr G r (jV x (aV t)) [x,a,c,d]];rfl
 have hLG:=anv t
 unfold OL at hT
 simp(disch:=try exact jz) only[go_sem,z3,l0,aJ hb,w0,r1,w1,hpl,hrd,hb,hT]
 refine⟨σ.aj+1+1,jb,jb,?_,?_,?_⟩
 .rfl
 .rw[au _ _ _ _ jb,au _ _ _ _ jb,aA];rfl
 .repeat(first|assumption|exact aT.refl (by assumption)|exact aT.up (by assumption) kf|exact aT.up (aT.refl (by assumption)) kf|refine aT.set1 ?_ kg kf|refine aT.kZ ?_ kg|refine aT.nJ ?_ kg|refine aT.oh ?_ kf)
end Go.Proofs.Xe
namespace Go.Proofs.Ins
structure GL where
 e:Nat->fA
 k:Nat->Nat
 h:Nat->Nat->Int
 ds:List (Rat×List fC)
def GL.eY(g:GL):List fC:=g.ds.flatMap (·.2)
def gq(g:GL)(x:Nat->Rat)(l:fC):Rat:=pO (g.e l.1) (x l.1) l.2
def gs(g:GL)(x:Nat->Rat)(i:Nat)(l:fC):Rat:=if l.1=i then xQ (g.e l.1) (x l.1) l.2 else 0
def KL(g:GL)(d:Rat×List fC):Int:=match d.2 with|[]=>-1|l::_=>g.h l.1 l.2
def dG(g:GL)(x:Nat->Rat)(j:Nat)(d:Rat×List fC):Rat:=(if KL g d=(j:Int)then jv d.1 (aI d.2 (gq g x))else 0)+ql d.1 (gq g x) 0 d.2 j
def dM(g:GL)(x:Nat->Rat)(j i:Nat)(d:Rat×List fC):Rat:=
 (if KL g d=(j:Int)then aI d.2 (gs g x i)-nS d.1 (aI d.2 (gq g x)) (aI d.2 (gs g x i))else 0)+jk d.1 (gq g x) (gs g x i) 0 0 0 d.2 j
def wI(g:GL)(j i c:Nat):Bool:=!(g.eY.contains (i,c))&&g.h i c==(j:Int)
def gG(n:Nat)(g:GL)(x:Nat->Rat)(j:Nat):Rat:=aB n (λi=>aB (g.k i) λc=>if wI g j i c then gq g x (i,c)else 0)+aI g.ds (dG g x j)
def gM(n:Nat)(g:GL)(x:Nat->Rat)(j i:Nat):Rat:=aB (g.k i) (λc=>if wI g j i c then gs g x i (i,c)else 0)+aI g.ds (dM g x j i)
structure Jc(n:Nat)(g:GL):Prop where
 nn:∀i,i<n->Ak (g.e i)
 inn:∀i,i<n->InE (g.k i) (g.e i)
 hold:∀i c,i<n->c<g.k i->g.h i c=-1\/0<=g.h i c/\g.h i c<n
 eY:∀l∈g.eY,l.1<n/\l.2<g.k l.1
 nodup:g.eY.Nodup
 pos:∀d∈g.ds,0<=d.1
section
variable {n:Nat} {g:GL}
def afs(hg:Jc n g){d:Rat×List fC}(hd:d∈g.ds):KL g d=-1\/0<=KL g d/\KL g d<n:=by
 unfold KL;split
 .omega
 .next l t e=>
  have h1:=hg.eY l (by grind[GL.eY]);exact hg.hold _ _ h1.1 h1.2
def rJ(hg:Jc n g){d:Rat×List fC}(hd:d∈g.ds){l:fC}(hl:l∈d.2):l.1<n:=
 (hg.eY l (bB.mpr ⟨d,hd,hl⟩)).1
def asl(hg:Jc n g){d:Rat×List fC}(hd:d∈g.ds)(v:Rat):aB n (λj=>if KL g d=(j:Int)then v else 0)=if KL g d=-1 then 0 else v:=by
 rcases afs hg hd with h|⟨h1,h2⟩
 .grind[bK]
 .rw[ae jb,jq (k:=(KL g d).toNat) jb λj _ hne=>ae jb,ab jb]
def anw(hg:Jc n g){i c:Nat}(hi:i<n)(hc:c<g.k i)(v:Rat):aB n (λj=>if wI g j i c then v else 0)=if(i,c)∈g.eY\/g.h i c=-1 then 0 else v:=by
 by_cases hl:(i,c)∈g.eY
 .grind[bK,wI]
 .rcases hg.hold i c hi hc with h|⟨h1,h2⟩
  .grind[bK,wI]
  .rw[ae kd,jq (k:=(g.h i c).toNat) jb λj _ hne=>?_,ab ?_]
   .grind[wI]
   grind[wI]
theorem Rw(hg:Jc n g){x:Nat->Rat}(hx:Nn n x){l:fC}(hl:l.1<n):0<=gq g x l:=JC (hg.nn _ hl) (hx _ hl) _
def iD(n:Nat)(q:fC->Rat)(l:fC):Rat:=if l.1<n then q l else 0
theorem LP{W:Rat}{q:fC->Rat}(j:Nat):∀(t:List fC) (Q:Rat),(∀l∈t,l.1<n)->ql W (iD n q) Q t j=ql W q Q t j
 |[],_,_=>rfl
 |l::t,Q,h=>by have e:iD n q l=q l:=ab (h l kc);unfold ql;rw[e,LP j t _ λu hu=>h u (by simp[hu])]
theorem U8{W:Rat}{q r:fC->Rat}(j:Nat):∀(t:List fC) (Q R B:Rat),(∀l∈t,l.1<n)->jk W (iD n q) (iD n r) Q R B t j=jk W q r Q R B t j
 |[],_,_,_,_=>rfl
 |l::t,Q,R,B,h=>by have e:iD n q l=q l:=ab (h l kc);have e2:iD n r l=r l:=ab (h l kc);unfold jk;rw[e,e2,U8 j t _ _ _ λu hu=>h u (by simp[hu])]
def anx(hg:Jc n g){x y:Nat->Rat}(hx:Nn n x)(hxy:Le n x y)(j:Nat):gG n g x j<=gG n g y j:=by
 unfold gG;have h1:∀l:fC,l.1<n->gq g x l<=gq g y l:=λl hl=>IB (hg.nn _ hl) (hx _ hl) (hxy _ hl) _;have h2:aB n (λi=>aB (g.k i) λc=>if wI g j i c then gq g x (i,c)else 0)<=aB n λi=>aB (g.k i) λc=>if wI g j i c then gq g y (i,c)else 0:=
  kN λi hi=>kN λc _=>by grind
 have h3:aI g.ds (dG g x j)<=aI g.ds (dG g y j):=nR λd hd=>by
  have hl:=λl hl=>rJ hg hd (l:=l) hl;have a:aI d.2 (gq g x)<=aI d.2 (gq g y):=nR λl hl=>h1 l (rJ hg hd hl);have b:=Oy (W:=d.1) (q:=iD n (gq g x)) (q':=iD n (gq g y)) (λl=>by
   grind[iD,Rw]) (λl=>by
   grind[iD]) j d.2 0 0 be
  grind[LP,jv,dG]
 grind
def X7(gf:fC->Rat):∀L:List fC,L.Nodup->(∀l∈L,l.1<n/\l.2<g.k l.1)->aB n (λi=>aB (g.k i) λc=>if(i,c)∈L then gf (i,c)else 0)=aI L gf
 |[],_,_=>bK λi _=>bK λc _=>by simp
 |p::t,hn,hl=>by
  rw[gb]at hn;have hp:=hl p kc;have e:aB n (λi=>aB (g.k i) λc=>if(i,c)∈p::t then gf (i,c)else 0)=aB n λi=>(if i=p.1 then gf p else 0)+aB (g.k i) λc=>if(i,c)∈t then gf (i,c)else 0:=aK λi _=>by
   have e2:(if i=p.1 then gf p else 0)=aB (g.k i) λc=>if i=p.1/\c=p.2 then gf p else 0:=by grind[jq,bK]
   rw[e2,<-dF];grind
  have hd:aB n (λi=>if i=p.1 then gf p else 0)=gf p:=by grind[jq]
  rw[e,dF,hd,X7 gf t hn.2 λl hl'=>hl l (by simp[hl'])];rfl
def aaS{α:Type}(l:List α)(f:α->List fC)(gf:fC->Rat):aI (l.flatMap f) gf=aI l λa=>aI (f a) gf:=by
 induction l with
 |nil=>rfl
 |cons a l ih=>
  rw[fo]
  have:∀(u v:List fC),aI (u++v) gf=aI u gf+aI v gf:=λu v=>by
   induction u with
   |nil=>grind[aI]
   |cons x u ih=>
    grind[aI]
  rw[this,ih];rfl
def zk(g:GL)(x:Nat->Rat)(i c:Nat):Rat:=if(i,c)∉g.eY/\g.h i c=-1 then gq g x (i,c)else 0
def EO(g:GL)(x:Nat->Rat)(d:Rat×List fC):Rat:=if KL g d=-1 then jv d.1 (aI d.2 (gq g x))else 0
def aaT(hg:Jc n g)(x:Nat->Rat)(hx:Nn n x):aB n (λi=>x i-gG n g x i)=aB n (λi=>x i-aB (g.k i) (pO (g.e i) (x i)))+aB n (λi=>aB (g.k i) (zk g x i))+aI g.ds (EO g x):=by
 have a1:aB n (λj=>aB n λi=>aB (g.k i) λc=>if wI g j i c then gq g x (i,c)else 0)=aB n λi=>aB (g.k i) λc=>if(i,c)∈g.eY\/g.h i c=-1 then 0 else gq g x (i,c):=by rw[zW];refine aK λi hi=>?_;simp_all[zW,aK,anw]
 have a2:aB n (λj=>aI g.ds (dG g x j))=aI g.ds λd=>(if KL g d=-1 then 0 else jv d.1 (aI d.2 (gq g x)))+oz (aI d.2 (gq g x)-d.1):=by
  rw[Ej g.ds λd j=>dG g x j d];refine dO λd hd=>?_;have e:aB n (λj=>dG g x j d)=aB n (λj=>if KL g d=(j:Int)then jv d.1 (aI d.2 (gq g x))else 0)+aB n λj=>ql d.1 (gq g x) 0 d.2 j:=by rw[<-dF];rfl
  rw[e,asl hg hd,acT d.2 0 λl hl=>rJ hg hd hl];have h0:=hg.pos d hd;have e2:oz (0-d.1)=0:=by unfold oz;split<;>grind
  grind
 have a3:aB n (λi=>aB (g.k i) λc=>if(i,c)∈g.eY then gq g x (i,c)else 0)=aI g.ds λd=>aI d.2 (gq g x):=by rw[X7 (gq g x) g.eY hg.nodup hg.eY];exact aaS _ _ _
 have a4:aB n (λi=>aB (g.k i) λc=>if(i,c)∈g.eY\/g.h i c=-1 then 0 else gq g x (i,c))=aB n (λi=>aB (g.k i) (pO (g.e i) (x i)))-aB n (λi=>aB (g.k i) λc=>if(i,c)∈g.eY then gq g x (i,c)else 0)-aB n (λi=>aB (g.k i) (zk g x i)):=by
  rw[<-iH,<-iH];refine aK λi _=>?_;rw[<-iH,<-iH];refine aK λc _=>?_;have e:pO (g.e i) (x i) c=gq g x (i,c):=rfl;rw[e];unfold zk;by_cases h1:(i,c)∈g.eY
  .rw[ab (.inl h1),ab h1,ae λh=>h.1 h1];grind
  .by_cases h2:g.h i c=-1
   .rw[ab (.inr h2),ae h1,ab ⟨h1,h2⟩];grind
   .rw[ae (by simp[h1,h2]),ae h1,ae λh=>h2 h.2];grind
 have a5:aI g.ds (λd=>(if KL g d=-1 then 0 else jv d.1 (aI d.2 (gq g x)))+oz (aI d.2 (gq g x)-d.1))=aI g.ds (λd=>aI d.2 (gq g x))-aI g.ds (EO g x):=by
  rw[<-Iy];refine dO λd hd=>?_;unfold EO;have e:jv d.1 (aI d.2 (gq g x))+oz (aI d.2 (gq g x)-d.1)=aI d.2 (gq g x):=by unfold jv oz;split<;>split<;>grind
  split<;>grind
 have a6:aB n (λi=>x i-gG n g x i)=aB n x-(aB n (λj=>aB n λi=>aB (g.k i) λc=>if wI g j i c then gq g x (i,c)else 0)+aB n λj=>aI g.ds (dG g x j)):=by rw[<-dF,<-iH];rfl
 grind[iH]
def anz(hg:Jc n g){x y:Nat->Rat}(hx:Nn n x)(hxy:Le n x y):aB n (λi=>x i-gG n g x i)<=aB n (λi=>y i-gG n g y i):=by
 rw[aaT hg x hx,aaT hg y (hx.le hxy)];have h0:∀l:fC,l.1<n->gq g x l<=gq g y l:=λl hl=>IB (hg.nn _ hl) (hx _ hl) (hxy _ hl) _;have h1:aB n (λi=>x i-aB (g.k i) (pO (g.e i) (x i)))<=aB n (λi=>y i-aB (g.k i) (pO (g.e i) (y i))):=
  kN λi hi=>Ox (hg.nn i hi) (hg.inn i hi) (hx i hi) (hxy i hi)
 have h2:aB n (λi=>aB (g.k i) (zk g x i))<=aB n (λi=>aB (g.k i) (zk g y i)):=kN λi hi=>kN λc _=>by grind[zk]
 have h3:aI g.ds (EO g x)<=aI g.ds (EO g y):=nR λd hd=>by have a:aI d.2 (gq g x)<=aI d.2 (gq g y):=nR λl hl=>h0 l (rJ hg hd hl);grind[EO,jv]
 grind
def gr(g:GL)(x d:Nat->Rat)(l:fC):Rat:=xQ (g.e l.1) (x l.1) l.2*d l.1
structure Ok(n:Nat)(g:GL)(x d:Nat->Rat)(s:Rat):Prop where
 e:∀i,i<n->∀c,c<g.k i->pO (g.e i) (x i+s*d i) c=pO (g.e i) (x i) c+s*d i*xQ (g.e i) (x i) c
 d:∀d'∈g.ds,okD d'.1 (gq g x) (gr g x d) s 0 0 d'.2
def aiZ{x d:Nat->Rat}{l:fC}(hl:l.1<n):aB n (λi=>gs g x i l*d i)=gr g x d l:=by grind[gs,gr,jq]
def avU(hg:Jc n g){x:Nat->Rat}(hx:Nn n x){l:fC}(hl:l.1<n)(i:Nat):0<=gs g x i l:=by
 unfold gs;split
 .exact qY (hg.nn _ hl) (hx _ hl) _
 rfl
def U9{W:Rat}{q r:fC->Rat}{s:Rat}:∀(t:List fC) (Q R:Rat),(∀l∈t,l.1<n)->(okD W (iD n q) (iD n r) s Q R t↔okD W q r s Q R t)
 |[],_,_,_=>Iff.rfl
 |l::t,Q,R,h=>by have e:iD n q l=q l:=ab (h l kc);have e2:iD n r l=r l:=ab (h l kc);unfold okD;rw[e,e2,U9 t _ _ λu hu=>h u (by simp[hu])]
def ai0(hg:Jc n g){x d:Nat->Rat}(hx:Nn n x)(hd:Nn n d){s:Rat}(h0:0<=s)(ho:Ok n g x d s){j:Nat}(hj:j<n):gG n g (bf x d s) j=gG n g x j+s*mv n (gM n g x) d j:=by
 have hq:∀l:fC,l.1<n->l.2<g.k l.1->gq g (bf x d s) l=gq g x l+s*gr g x d l:=λl h1 h2=>by have:=ho.e l.1 h1 l.2 h2;grind[gq,gr,bf]
 have a1:aB n (λi=>aB (g.k i) λc=>if wI g j i c then gq g (bf x d s) (i,c)else 0)=aB n (λi=>aB (g.k i) λc=>if wI g j i c then gq g x (i,c)else 0)+s*aB n λi=>aB (g.k i) (λc=>if wI g j i c then gs g x i (i,c)else 0)*d i:=by rw[<-gQ,<-dF];refine aK λi hi=>?_;rw[<-qh,<-gQ,<-dF];grind[Go.Proofs.Ins.aK,Go.Proofs.Ins.gs,Go.Proofs.Ins.gr]
 have a2:∀d'∈g.ds,dG g (bf x d s) j d'=dG g x j d'+s*aB n λi=>dM g x j i d'*d i:=λd' hd'=>by
  have hl:=λl hl=>rJ hg hd' (l:=l) hl;have hl2:∀l∈d'.2,l.2<g.k l.1:=λl hl=>(hg.eY l (bB.mpr ⟨d',hd',hl⟩)).2;have hok:=ho.d d' hd';have hcq:∀l,0<=iD n (gq g x) l:=λl=>by
   unfold iD;split
   .next h=>exact Rw hg hx h
   .exact be
  have hcr:∀l,0<=iD n (gr g x d) l:=λl=>by
   unfold iD;split
   .next h=>exact cj (qY (hg.nn _ h) (hx _ h) _) (hd _ h)
   .exact be
  have hq0:(0:Rat)<d'.1->s*0<=d'.1-0:=λh=>by grind
  have b1:=acO (W:=d'.1) h0 hcr j d'.2 0 0 be hq0 ((U9 d'.2 0 0 hl).mpr hok);have b2:ql d'.1 (λl=>iD n (gq g x) l+s*iD n (gr g x d) l) (0+s*0) d'.2 j=ql d'.1 (gq g (bf x d s)) 0 d'.2 j:=by
   have z:(0:Rat)+s*0=0:=by grind
   rw[z];clear b1 hok hq0;have:∀(t:List fC) (Q:Rat),(∀l∈t,l.1<n/\l.2<g.k l.1)->ql d'.1 (λl=>iD n (gq g x) l+s*iD n (gr g x d) l) Q t j=ql d'.1 (gq g (bf x d s)) Q t j:=by
    intro t;induction t with
    |nil=>intro Q _;rfl
    |cons l t ih=>
     intro Q h
     have h1:=h l kc
     have e:iD n (gq g x) l+s*iD n (gr g x d) l=gq g (bf x d s) l:=by rw[hq l h1.1 h1.2];unfold iD;rw[ab h1.1,ab h1.1]
     unfold ql
     rw[e,ih _ λu hu=>h u (by simp[hu])]
   exact this d'.2 0 λl h=>⟨hl l h,hl2 l h⟩
  rw[b2,LP j _ _ hl,U8 j _ _ _ _ hl]at b1;have z0:nS d'.1 0 0=0:=by unfold nS;split<;>rfl
  rw[z0]at b1;have b3:jk d'.1 (gq g x) (gr g x d) 0 0 0 d'.2 j=aB n λi=>jk d'.1 (gq g x) (gs g x i) 0 0 0 d'.2 j*d i:=by
   have c:=acS (n:=n) (W:=d'.1) (q:=gq g x) d (gs g x) j d'.2 0 (λ_=>0) (λ_=>0);have z:aB n (λi=>0*d i)=0:=bK λi _=>by rw[Rat.zero_mul]
   rw[z]at c;rw[<-c];have:∀(t:List fC) (Q R B:Rat),(∀l∈t,l.1<n)->jk d'.1 (gq g x) (gr g x d) Q R B t j=jk d'.1 (gq g x) (λl=>aB n λi=>gs g x i l*d i) Q R B t j:=by
    intro t;induction t with
    |nil=>intro Q R B _;rfl
    |cons l t ih=>
     intro Q R B h
     unfold jk
     rw[aiZ (h l kc),ih _ _ _ λu hu=>h u (by simp[hu])]
   exact this d'.2 0 0 0 hl
  have b4:aI d'.2 (gq g (bf x d s))=aI d'.2 (gq g x)+s*aI d'.2 (gr g x d):=by rw[<-xP,<-Dz];exact dO λl h=>hq l (hl l h) (hl2 l h)
  have b5:aI d'.2 (gr g x d)=aB n λi=>aI d'.2 (gs g x i)*d i:=by
   have:aB n (λi=>aI d'.2 (gs g x i)*d i)=aB n λi=>aI d'.2 λl=>gs g x i l*d i:=aK λi _=>by rw[fY,<-xP];exact dO λl _=>fY _ _
   rw[this,Ej d'.2 λl i=>gs g x i l*d i];exact dO λl h=>(aiZ (hl l h)).symm
  have b6:0<=aI d'.2 (gr g x d):=ng λl h=>cj (qY (hg.nn _ (hl l h)) (hx _ (hl l h)) _) (hd _ (hl l h));have b7:=acP d'.2 0 0 hok (λh=>by grind);rw[ga,ga]at b7;have b8:=anq (W:=d'.1) h0 b6 b7;have b9:aB n (λi=>(aI d'.2 (gs g x i)-nS d'.1 (aI d'.2 (gq g x)) (aI d'.2 (gs g x i)))*d i)=aI d'.2 (gr g x d)-nS d'.1 (aI d'.2 (gq g x)) (aI d'.2 (gr g x d)):=by rw[b5,acR,<-iH];exact aK λi _=>by grind
  unfold dG dM;rw[b1,b3,b4,b8];by_cases e:KL g d'=(j:Int)
  .simp only[ab e];have:aB n (λi=>(aI d'.2 (gs g x i)-nS d'.1 (aI d'.2 (gq g x)) (aI d'.2 (gs g x i))+jk d'.1 (gq g x) (gs g x i) 0 0 0 d'.2 j)*d i)=aB n (λi=>(aI d'.2 (gs g x i)-nS d'.1 (aI d'.2 (gq g x)) (aI d'.2 (gs g x i)))*d i)+aB n λi=>jk d'.1 (gq g x) (gs g x i) 0 0 0 d'.2 j*d i:=by rw[<-dF];exact aK λi _=>by rw[Rat.add_mul]
   rw[this,b9];grind
  .simp only[ae e];have:aB n (λi=>(0+jk d'.1 (gq g x) (gs g x i) 0 0 0 d'.2 j)*d i)=aB n λi=>jk d'.1 (gq g x) (gs g x i) 0 0 0 d'.2 j*d i:=aK λi _=>by rw[ga]
   rw[this];grind
 have a3:aI g.ds (dG g (bf x d s) j)=aI g.ds (dG g x j)+s*aB n λi=>aI g.ds (dM g x j i)*d i:=by rw[dO a2,Dz,xP];congr 2;rw[<-Ej g.ds λd' i=>dM g x j i d'*d i];refine aK λi _=>?_;rw[fY,<-xP];exact dO λ_ _=>fY _ _
 have a4:mv n (gM n g x) d j=aB n (λi=>aB (g.k i) (λc=>if wI g j i c then gs g x i (i,c)else 0)*d i)+aB n λi=>aI g.ds (dM g x j i)*d i:=by rw[<-dF];exact aK λi _=>by unfold gM;rw[Rat.add_mul]
 grind[gG]
end
end Go.Proofs.Ins
