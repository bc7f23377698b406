import Derived.Test.YtjhhfbbndfpdaaaGreatDoorYg21
set_option linter.all false
set_option maxRecDepth 100000
set_option maxHeartbeats 8000000
namespace Go.Proofs.Xe
open Go.RowKit Go.Proofs.Ins
def aes{E:Env}{a b:AC}{tm:Tr V}{J:St}{Q:AX->Tr V->St->Prop}(M:Tr V->St->Prop)(h1:bM E a tm J λe tm J=>e=.normal/\M tm J)(h2:∀tm' J',M tm' J'->bM E b tm' J' Q):bM E (.seq a b) tm J Q:=
 run_seq (h1.mono λe tm J' ⟨he,hm⟩=>by subst he;exact h2 _ _ hm)
structure Ns{α:Type}[Inhabited α](h:Tr Bk)(n:Nat)(c:α->List B)(e ty:Nat)(L:Nat->List α)(bs:Nat->Nat)(lo hi:Nat):Prop where
 blk:∀i,i<n->0<(L i).length->h (bs i)=some ⟨aY (L i).length (λk=>c (ix (L i) k)),some (e,ty)⟩/\lo<=bs i/\bs i<hi
 inj:∀i j,i<n->j<n->0<(L i).length->0<(L j).length->bs i=bs j->i=j
section
variable {α:Type} [Inhabited α] {h h' : Tr Bk} {n e ty lo hi:Nat} {c:α→List B} {L:Nat→List α} {bs:Nat→Nat}
theorem Ns.nil(h:Tr Bk)(n:Nat)(c:α->List B)(e ty:Nat)(bs:Nat->Nat)(lo hi:Nat):Ns h n c e ty (λ_=>[]) bs lo hi:=⟨λi _ h=>by simp at h,λi j _ _ h=>by simp at h⟩
def Ns.mono(hf:Ns h n c e ty L bs lo hi)(hh:∀b,lo<=b->b<hi->h' b=h b){hi':Nat}(h2:hi<=hi'):Ns h' n c e ty L bs lo hi':=
 ⟨λi hi hp=>by obtain⟨k1,k2,k3⟩:=hf.blk i hi hp;exact⟨by rw[hh _ k2 k3];exact k1,k2,jb⟩,hf.inj⟩
theorem gZ(l:List α)(x:α){k:Nat}(h:k<l.length):ix (l++[x]) k=ix l k:=by rw[UH,ab h]
theorem ig(l:List α)(x:α):ix (l++[x]) l.length=x:=by rw[UH,ae jb,ab rfl]
def Ns.push(hf:Ns h n c e ty L bs lo hi){i nx:Nat}(hi':i<n)(x:α){cells:List B}(hc:cells=aY (L i).length (λk=>c (ix (L i) k))++c x)(h1:h' nx=some ⟨cells,some (e,ty)⟩)
  (hh:∀j,j<n->j≠i->0<(L j).length->h' (bs j)=h (bs j)) (hlo:lo<=nx) (hnx:hi<=nx){hi2:Nat}(h2:nx<hi2):Ns h' n c e ty (aJ L i (L i++[x])) (aJ bs i nx) lo hi2:=by
 refine⟨λj hj hp=>?_,λa b ha hb pa pb e=>?_⟩
 .by_cases e:j=i
  .subst e
   rw[aI,aI,ax,bR]
   refine⟨?_,hlo,h2⟩
   rw[h1,hc,jv]
   congr 2
   refine bf λk hk=>?_
   unfold iC
   split
   .next e=>rw[e,ig]
   .rw[gZ _ _ jb]
  .rw[aQ _ _ _ _ e]at hp⊢
   rw[aQ _ _ _ _ e]
   obtain⟨k1,k2,k3⟩:=hf.blk j hj hp
   exact⟨by rw[hh j hj e hp];exact k1,k2,jb⟩
 .by_cases e1:a=i
  .by_cases e2:b=i
   .rw[e1,e2]
   .rw[e1,aI,aQ _ _ _ _ e2]at e
    rw[aQ _ _ _ _ e2]at pb
    have:=(hf.blk b hb pb).2.2
    omega
  .by_cases e2:b=i
   .rw[e2,aI,aQ _ _ _ _ e1]at e
    rw[aQ _ _ _ _ e1]at pa
    have:=(hf.blk a ha pa).2.2
    omega
   .rw[aQ _ _ _ _ e1]at pa
    rw[aQ _ _ _ _ e2]at pb
    rw[aQ _ _ _ _ e1,aQ _ _ _ _ e2]at e
    exact hf.inj a b ha hb pa pb e
def Ns.hlp(hf:Ns h n c e ty L bs lo hi){p:Nat->Prop}(hp:∀b,lo<=b->b<hi->p b)(hc:∀x,(c x).length=e)(he:0<e)(hk:∀x,(c x).all B.kn=true){i:Nat}(hi':i<n):aZ p h e (kM (L i) (bs i)) (L i).length λk=>c (ix (L i) k):=by
 by_cases h0:(L i).length=0
 .exact .inl ⟨h0,by unfold kM;rw[ab h0]⟩
 .obtain⟨k1,k2,k3⟩:=hf.blk i hi' jb;rw[jg jb];exact bD _ k1 (by rw[Bd _ _ jb]) (hp _ k2 k3) (λ_=>hc _) he λ_ _=>hk _
end
def iH.lt{J:St}(hW:WF J){p:Nat->Prop}{v:B}{l:List fD}(hl:iH p J.h v l):iH (Lt J.aj) J.h v l:=by obtain⟨T,k1,k2⟩:=hl;refine⟨T,k1.lt hW,λj hj=>?_⟩;obtain⟨U,m1,m2⟩:=k2 j hj;exact⟨U,m1.lt hW,λl hl=>(m2 l hl).lt hW⟩
theorem iH.fr{J J':St}(hW:WF J)(hf:Fr J J'){p:Nat->Prop}{v:B}{l:List fD}(hl:iH p J.h v l):iH (Lt J.aj) J'.h v l:=(hl.lt hW).keep hf.lt λ_ h=>h
def akt(al:List fD)(c:Int):Prop:=∀j,j<al.length->∀t,t<(ix al j).length->∀p,p<(ix (ix al j) t).length->(ix (ix (ix al j) t) p).k≠c
def auO(al:List fD):Prop:=al.length<=1000/\∀j,j<al.length->(ix al j).length<=1000/\∀t,t<(ix al j).length->(ix (ix al j) t).length<=1000
def auP{J:St}(hW:WF J){p:Nat->Prop}{x1 x2 x3 C A:B}(al:List fD)(hA:iH p J.h A al)(hl:auO al)(h1:x1.kn=true)(h2:x2.kn=true)(h3:x3.kn=true)(h4:C.kn=true)(c:Int):
  aC EN 43 [.agg [x1,x2,x3,C,A],.c (.int .i64 c)] J λr J'=>(∃b,r=.c (.bool b)/\(b=true->akt al c))/\Fr J J':=by
 refine aN (KR.o _ _) KR.h ?_
 unfold KR
 dsimp only
 obtain⟨T,hT,hT2⟩:=hA
 have hlen:=hT.len
 have hkn:=hT.kn
 simp(disch:=try exact jz)only[go_sem,hkn,hlen]
 refine aF (λq tm J'=>∃j,q=al.length-j/\j<=al.length/\r8 tm 1=.c (.int .i64 c)/\r8 tm 12=.c A/\r8 tm 13=jN al.length/\r8 tm 14=jN j
  /\(∀j',j'<j->∀t,t<(ix al j').length->∀p,p<(ix (ix al j') t).length->(ix (ix (ix al j') t) p).k≠c)/\Fr J J') al.length ?_ ?_
 .refine⟨0,jb,jb,?_⟩
  refine WN ?_
  exact⟨λj hj=>jb,fr⟩
 .rintro q tm J' ⟨j,rfl,hj,t1,t12,t13,t14,hfree,hf⟩
  have hle:=hf.le
  have hl0:=hl.1
  simp(disch:=try exact jz)only[go_sem,t13,t14,aA]
  refine aH (λhlt=>?_) (λhlt=>?_)
  .obtain⟨b,o,cc,rfl,-,hld⟩:=hT.pos jb
   have hld:=hf.ld hW (hld j hlt)
   have hlk:=(tH hld).2
   have hTj:=hT2 j hlt
   obtain⟨hlj,aBi⟩:=hl.2 j hlt
   generalize hag:ix al j=ag at*
   obtain⟨U,hU,hU2⟩:=hTj
   have aku:=hU.len
   simp(disch:=try exact jz)only[go_sem,t12,t14,hld,hlk,aku]
   refine aF (λq tm σ3=>∃t,q=ag.length-t/\t<=ag.length/\r8 tm 1=.c (.int .i64 c)/\r8 tm 12=.c (.sl b o al.length cc)/\r8 tm 13=jN al.length/\r8 tm 14=jN j
    /\r8 tm 19=.c (T j)/\r8 tm 20=jN ag.length/\r8 tm 21=jN t
    /\(∀t',t'<t->∀p,p<(ix ag t').length->(ix (ix ag t') p).k≠c)/\Fr J σ3) ag.length ?_ ?_
   .refine⟨0,jb,jb,?_⟩
    refine W0 ?_
    exact⟨λt ht=>jb,fr⟩
   .rintro q tm3 σ3 ⟨t,rfl,ht,t1,t12,t13,t14,t19,t20,t21,akv,hf3⟩
    simp(disch:=try exact jz)only[go_sem,t20,t21,aA]
    refine aH (λhlt3=>?_) (λhlt3=>?_)
    .obtain⟨b3,o3,c3,e3,-,vk⟩:=hU.pos jb
     have vk:=hf3.ld hW (vk t hlt3)
     have vk:=(tH vk).1
     have hPt:=hU2 t hlt3
     have hlt4:=aBi t hlt3
     generalize hti:ix ag t=ti at*
     have Jw:=hPt.len
     rw[e3]at t19
     simp(disch:=try exact jz)only[go_sem,t19,t21,vk,Jw]
     refine aF (λq tm σ5=>∃k,q=ti.length-k/\k<=ti.length/\r8 tm 1=.c (.int .i64 c)/\r8 tm 12=.c (.sl b o al.length cc)/\r8 tm 13=jN al.length/\r8 tm 14=jN j
      /\r8 tm 19=.c (.sl b3 o3 ag.length c3)/\r8 tm 20=jN ag.length/\r8 tm 21=jN t
      /\r8 tm 25=.c (U t)/\r8 tm 26=jN ti.length/\r8 tm 27=jN k
      /\(∀p,p<k->(ix ti p).k≠c)/\Fr J σ5) ti.length ?_ ?_
     .refine⟨0,jb,jb,?_⟩
      refine W0 ?_
      exact⟨λt ht=>jb,hf3⟩
     .rintro q tm5 σ5 ⟨k,rfl,hk,t1,t12,t13,t14,t19,t20,t21,t25,t26,t27,akw,hf5⟩
      simp(disch:=try exact jz)only[go_sem,t26,t27,aA]
      refine aH (λaph=>?_) (λaph=>?_)
      .obtain⟨b5,o5,c5,e5,-,bC⟩:=hPt.pos jb
       have bC:=hf5.ld hW (bC k aph)
       unfold Aq at bC
       rw[e5]at t25
       have wu:=hf5.le
       simp(disch:=try exact jz)only[go_sem,t1,t25,t27,bC]
       refine aH (λhq=>?_) (λhq=>?_)
       .refine WX ?_
        exact⟨⟨_,rfl,λh=>by cases h⟩,fr⟩
       .refine WP ?_
        refine⟨ti.length-(k+1),jb,k+1,rfl,jb,by rw[e5],rfl,λp hp=>?_,fr⟩
        by_cases e:p=k
        .rw[e];exact hq
        .exact akw p jb
      .have:k=ti.length:=jb
       subst this
       simp(disch:=try exact jz)only[go_sem,t1,t12,t13,t14,t19,t20,t21]
       refine⟨ag.length-(t+1),jb,t+1,rfl,jb,by rw[e3],rfl,λt' ht'=>?_,hf5⟩
       by_cases e:t'=t
       .rw[e,hti];exact akw
       .exact akv t' jb
    .have:t=ag.length:=jb
     subst this
     simp(disch:=try exact jz)only[go_sem,t1,t12,t13,t14]
     refine⟨al.length-(j+1),jb,j+1,rfl,jb,rfl,λj' hj'=>?_,hf3⟩
     by_cases e:j'=j
     .rw[e,hag];exact akv
     .exact hfree j' jb
  .have:j=al.length:=jb
   subst this
   refine WX ?_
   exact⟨⟨_,rfl,λ_=>hfree⟩,hf⟩
def U1(nc:Nat)(al:List fD)(x:yF):Prop:=((x.k=-1/\x.b=true)\/∃i:Nat,i<nc/\x.k=(i:Int)/\akt al x.k)/\∃w:Nat,w<=16/\x.a=mV ((Int.ofNat w:Int):Rat)
def GV(nc:Nat)(al:List fD)(t:List yF):Prop:=∀k,k<t.length->U1 nc al (ix t k)
def GV.snoc{nc:Nat}{al:List fD}{t:List yF}{x:yF}(h:GV nc al t)(hx:U1 nc al x):GV nc al (t++[x]):=λk hk=>by
 rw[ax,bR]at hk;by_cases e:k=t.length
 .rw[e,ig];exact hx
 .rw[gZ _ _ jb];exact h k jb
structure TI(J J':St)(tb i nc:Nat)(al:List fD)(ts:Nat->List yF)(bs:Nat->Nat):Prop where
 b:J'.h tb=some ⟨ones 3 (λt=>kM (ts t) (bs t)),none⟩
 f:Ns J'.h 3 Aq 5 90 ts bs (tb+1) J'.aj
 g:∀t,t<3->GV nc al (ts t)
 l:∀t,t<3->(ts t).length<=i
 n:tb+1<=J'.aj
 fr:Fr J J'
def agW(ts:Nat->List yF)(bs:Nat->Nat)(t nx:Nat)(x:yF):(λj=>kM (aJ ts t (ts t++[x]) j) (aJ bs t nx j))=aJ (λj=>kM (ts j) (bs j)) t (.sl nx 0 ((ts t).length+1) .opn):=by
 funext j;unfold aJ;split
 .next e=>rw[jg kc,ax];rfl
 .rfl
def aeu(l:List yF):l.length*5<=(aY l.length (λk=>Aq (ix l k))).length:=by rw[ng (e:=5) λ_=>rfl];exact jp
def ZG(l:List yF):(aY l.length (λk=>Aq (ix l k))).take (l.length*5)=aY l.length (λk=>Aq (ix l k)):=jO λ_=>rfl
section
variable {J J' : St} {tb i nc:Nat} {al:List fD} {ts:Nat→List yF} {bs:Nat→Nat}
def TI.step(hT:TI J J' tb i nc al ts bs){σ3:St}(hf:Fr J' σ3):TI J σ3 tb (i+1) nc al ts bs:=by have hn:=hT.n;have hle:=hf.le;exact⟨by rw[hf.old _ jb];exact hT.b,hT.f.mono (λb _ hb=>hf.old b hb) hle,hT.g,λt ht=>by have:=hT.l t ht;omega,jb,hT.fr.trans hf⟩
def TI.push(hT:TI J J' tb i nc al ts bs){t nx n':Nat}{x:yF}{h':Tr Bk}(ht:t<3)(hg:U1 nc al x)(hb:h' tb=some ⟨ones 3 (aJ (λj=>kM (ts j) (bs j)) t (.sl nx 0 ((ts t).length+1) .opn)),none⟩)
  (hx:h' nx=some ⟨aY (ts t).length (λk=>Aq (ix (ts t) k))++Aq x,some (5,90)⟩) (ho:∀b,tb+1<=b->b<J'.aj->(0<(ts t).length->b≠bs t)->h' b=J'.h b) (hn:J'.aj<=nx) (hn':nx<n') (hf:Fr J ⟨h',n'⟩):
  TI J ⟨h',n'⟩ tb (i+1) nc al (aJ ts t (ts t++[x])) (aJ bs t nx):=by
 have hn0:=hT.n
 refine⟨?_,?_,λj hj=>?_,λj hj=>?_,by show tb+1<=n';omega,hf⟩
 .rw[agW];exact hb
 .refine hT.f.push ht x rfl hx (λj hj e hp=>?_) jb hn hn'
  obtain⟨-,k2,k3⟩:=hT.f.blk j hj hp
  exact ho _ k2 k3 λhp2 e2=>e (hT.f.inj j t hj ht hp hp2 e2)
 .unfold aJ
  split
  .next e=>exact(hT.g t ht).snoc hg
  .exact hT.g j hj
 .unfold aJ
  split
  .next e=>rw[ax,bR];have:=hT.l t ht;omega
  .have:=hT.l j hj;omega
end
def aZ.plt{J:St}(hW:WF J){p:Nat->Prop}{e n:Nat}{v:B}{G:Nat->List B}(hl:aZ p J.h e v n G):aZ (λb=>p b/\b<J.aj) J.h e v n G:=by
 rcases hl with h|⟨b,o,c,h1,h2,h3⟩
 .exact .inl h
 .exact .inr ⟨b,o,c,h1,λh=>⟨h2 h,hW.dh (h3 0 h)⟩,h3⟩
def dR.plt{J:St}(hW:WF J){p:Nat->Prop}{v:B}{l:fD}(hl:dR p J.h v l):dR (λb=>p b/\b<J.aj) J.h v l:=by obtain⟨T,k1,k2⟩:=hl;exact⟨T,k1.plt hW,λj hj=>(k2 j hj).plt hW⟩
def agree_end{J J':St}{tb i nc:Nat}{al:List fD}{ts:Nat->List yF}{bs:Nat->Nat}(hW:WF J){p:Nat->Prop}{T:Nat->B}(hT2:∀j,j<al.length->dR p J.h (T j) (ix al j))(WT:∀j,j<al.length->(T j).kn=true)(hT:TI J J' tb i nc al ts bs)(hi:i<=nc+1)(htb:J.aj<=tb)
  {h':Tr Bk}{n' rb:Nat}(hr:h' rb=some ⟨aY (al.length+1) (λj=>[if j<al.length then T j else .sl tb 0 3 (.ex 3)]),some (1,93)⟩) (ho:∀b,b<J'.aj->h' b=J'.h b) (hrb:J'.aj<=rb) (hn:rb<n') (hf:Fr J ⟨h',n'⟩):
  (∃rv a,V.c (.sl rb 0 (al.length+1) .opn)=.c rv/\iH (λb=>p b\/J.aj<=b/\b<n') h' rv (al++[a])/\a.length=3/\∀t,t<3->GV nc al (ix a t)/\(ix a t).length<=nc+1)/\Fr J ⟨h',n'⟩:=by
 have hle:=hT.fr.le
 have hn1:=hT.n
 have h3:∀t,t<3->ix [ts 0,ts 1,ts 2] t=ts t:=λt ht=>by
  match t,ht with
  |0,_=>rfl
  |1,_=>rfl
  |2,_=>rfl
 refine⟨⟨_,[ts 0,ts 1,ts 2],rfl,⟨λj=>if j<al.length then T j else .sl tb 0 3 (.ex 3),?_,λj hj=>?_⟩,rfl,λt ht=>?_⟩,hf⟩
 .have:(al++[[ts 0,ts 1,ts 2]]).length=al.length+1:=by simp
  rw[this]
  exact bD _ hr rfl (.inr ⟨jb,hn⟩) (λ_=>rfl) jj λj hj=>by
   dsimp only;split
   .next e=>simp only[cy,di,WT j e,cI]
   .rfl
 .have hj':j<al.length+1:=by simpa using hj
  dsimp only
  by_cases e:j<al.length
  .rw[ab e,gZ _ _ e]
   refine((hT2 j e).plt hW).keep (λb hb=>?_) λb hb=>.inl hb.1
   rw[ho b jb,hT.fr.old b hb.2]
  .rw[ae e]
   obtain rfl:j=al.length:=jb
   rw[ig]
   refine⟨λt=>kM (ts t) (bs t),?_,λt ht=>?_⟩
   .have hb:h' tb=some ⟨aY 3 (λt=>[kM (ts t) (bs t)]),none⟩:=by rw[ho tb jb];exact hT.b
    exact bD _ hb rfl (.inr ⟨htb,jb⟩) (λ_=>rfl) jj λj _=>by simp only[cy,di,qO,cI]
   .have ht:t<3:=ht
    rw[h3 t ht]
    exact(hT.f.hlp (p:=λb=>tb+1<=b/\b<J'.aj) (λb h1 h2=>⟨h1,h2⟩) (λ_=>rfl) jj (λ_=>rfl) ht).keep (λb hb=>ho b hb.2) λb hb=>.inr ⟨jb,jb⟩
 .rw[h3 t ht]
  exact⟨hT.g t ht,by have:=hT.l t ht;omega⟩
def apj{J:St}(hW:WF J){p:Nat->Prop}{x1 x2 x3 C A:B}(al:List fD)(hA:iH p J.h A al)(hl:auO al)(nc:Nat)(hC:lenV (.c C)=some (jN nc))(hnc:nc<=1000)(h1:x1.kn=true)(h2:x2.kn=true)(h3:x3.kn=true)(h4:C.kn=true)
  (p0 p1 p2:Nat) (b0:p0<=65535) (b1:p1<=65535) (b2:p2<=65535):
  aC EN 23 [.agg [x1,x2,x3,C,A],.agg [.int .u16 (.ofNat p0),.int .u16 (.ofNat p1),.int .u16 (.ofNat p2)]] J λr J'=>(∃rv a,r=.c rv/\iH (λb=>p b\/J.aj<=b/\b<J'.aj) J'.h rv (al++[a])/\a.length=3/\∀t,t<3->GV nc al (ix a t)/\(ix a t).length<=nc+1)/\Fr J J':=by
 refine aN (Hq.o _ _) Hq.h ?_
 unfold Hq
 dsimp only
 have hAk:=hA.kn
 simp(disch:=try exact jz)only[go_sem,hC,h4]
 refine bM.mono (Q:=λe tm J'=>e=.exit 0/\∃ts bs,r8 tm 2=.c (.ptr J.aj 0)/\r8 tm 3=.c (.ptr (J.aj+1) 0)/\r8 tm 5=.c (.sl (J.aj+1+1) 0 3 (.ex 3))
  /\J'.h J.aj=some ⟨[x1,x2,x3,C,A],none⟩/\J'.h (J.aj+1)=some ⟨[.int .u16 (.ofNat p0),.int .u16 (.ofNat p1),.int .u16 (.ofNat p2)],none⟩/\TI J J' (J.aj+1+1) nc nc al ts bs) (aF (λq tm J'=>∃i ts bs,q=nc-i/\i<=nc/\r8 tm 2=.c (.ptr J.aj 0)/\r8 tm 3=.c (.ptr (J.aj+1) 0)/\r8 tm 5=.c (.sl (J.aj+1+1) 0 3 (.ex 3))/\r8 tm 6=jN p1/\r8 tm 17=jN nc/\r8 tm 18=jN i
  /\J'.h J.aj=some ⟨[x1,x2,x3,C,A],none⟩/\J'.h (J.aj+1)=some ⟨[.int .u16 (.ofNat p0),.int .u16 (.ofNat p1),.int .u16 (.ofNat p2)],none⟩/\TI J J' (J.aj+1+1) i nc al ts bs) nc ?_ ?_) ?_
 .refine⟨0,λ_=>[],λ_=>0,jb,jb,?_⟩
  refine WN ?_
  refine⟨?_,Ns.nil _ _ _ _ _ _ _ _,λt _ k hk=>by simp at hk,λt _=>cx 0,jp,?_⟩
  .rw[ay];rfl
  .exact fr
 .rintro q tm J' ⟨i,ts,bs,rfl,hi,t2,t3,t5,t6,t17,uF,q1,q2,hT⟩
  have hle:=hT.fr.le
  have hn:=hT.n
  have hr:=vM p1 (2^min (2*i) 64) 9223372036854775807 jb
  simp(disch:=try exact jz)only[go_sem,t17,uF,aA]
  refine aH (λhlt=>?_) (λhlt=>?_)
  .simp(disch:=try exact jz)only[go_sem,t6,uF]
   have hx3:(p1/2^min (2*i) 64)&&&3<=3:=Nat.and_le_right
   generalize (p1/2^min (2*i) 64)&&&3=x at*
   refine Y4 (λhx0=>?_) (λhx0=>?_)
   .simp(disch:=try exact jz)only[go_sem,W3,uF,hx0]
    exact⟨nc-(i+1),jb,i+1,ts,bs,rfl,jb,rfl,q1,q2,hT.step (Fr.refl hT.fr.wf)⟩
   .have U2:=hT.b
    simp(disch:=try exact jz)only[go_sem,t2,hx0,au q1,h1,h2,h3,h4,hAk]
    refine(auP hT.fr.wf al (hA.fr hW hT.fr) hl h1 h2 h3 h4 (.ofNat i)).mono ?_
    rintro _ σ3 ⟨⟨fb,rfl,hfb⟩,hf3⟩
    have q1':=hf3.get hT.fr.wf q1
    have q2':=hf3.get hT.fr.wf q2
    simp(disch:=try exact jz)only[go_sem]
    cases fb
    .simp(disch:=try exact jz)only[go_sem,W3,uF]
     exact⟨nc-(i+1),jb,i+1,ts,bs,rfl,jb,rfl,q1',q2',hT.step hf3⟩
    .have KZ:=hT.step hf3
     have hf0:=hfb rfl
     have hF3:=KZ.fr
     have U2:=KZ.b
     have hn3:=KZ.n
     have hle3:=KZ.fr.le
     have hkn:=qO (ts (x-1)) (bs (x-1))
     have hpl:=aeu (ts (x-1))
     have hpt:=ZG (ts (x-1))
     have hxl:=KZ.l (x-1) jb
     have hr2:=vM p2 (2^min i 64) 9223372036854775807 jb
     have hr3:=vM p2 (2^min 6 16) 9223372036854775807 jb
     have hgood:∀(b:Bool) (w:Nat),w<=16->U1 nc al ⟨.ofNat i,b,mV ((Int.ofNat w:Int):Rat)⟩:=λb w hw=>⟨.inr ⟨i,hlt,rfl,hf0⟩,w,hw,rfl⟩
     simp(disch:=try exact jz)only[go_sem,t3,au q2']
     refine aH (λhcap=>?_) (λhcap=>?_)
     .by_cases hz:(ts (x-1)).length=0
      .have he:kM (ts (x-1)) (bs (x-1))=.aO:=by unfold kM;rw[ab hz]
       simp(disch:=try exact jz)only[go_sem,W3,uF,au q2',au U2,U2,he]
       refine⟨nc-(i+1),jb,i+1,aJ ts (x-1) (ts (x-1)++[⟨.ofNat i,true,mV ((Int.ofNat (p2/2^min 6 16%9):Int):Rat)⟩]),aJ bs (x-1) (σ3.aj+1+1),rfl,jb,rfl,?_,?_,TI.push (i:=i) ⟨KZ.b,KZ.f,KZ.g,λt ht=>?_,KZ.n,KZ.fr⟩ jb (hgood true (p2/2^min 6 16%9) jb) ?_ ?_ ?_ ?_ ?_ ?_⟩
       .exact q1'
       .exact q2'
       .exact hT.l t ht
       .rw[hz,ay]
       .rw[ak _ _ _ _ jb,ay,hz];rfl
       .intro b h1 h2 h3
        simp(disch:=omega) only[ak]
       .omega
       .omega
       .exact fr
      .have he:=jg (l:=ts (x-1)) jb (bs (x-1))
       obtain⟨k1,k2,k3⟩:=KZ.f.blk (x-1) jb jb
       simp(disch:=try exact jz)only[go_sem,W3,uF,au q2',au U2,U2,he,k1,hpt]
       refine⟨nc-(i+1),jb,i+1,aJ ts (x-1) (ts (x-1)++[⟨.ofNat i,true,mV ((Int.ofNat (p2/2^min 6 16%9):Int):Rat)⟩]),aJ bs (x-1) (σ3.aj+1+1),rfl,jb,rfl,?_,?_,TI.push (i:=i) ⟨KZ.b,KZ.f,KZ.g,λt ht=>?_,KZ.n,KZ.fr⟩ jb (hgood true (p2/2^min 6 16%9) jb) ?_ ?_ ?_ ?_ ?_ ?_⟩
       .exact q1'
       .exact q2'
       .exact hT.l t ht
       .rw[ay]
       .rw[ak _ _ _ _ jb,ay];rfl
       .intro b h1 h2 h3
        have h3:=h3 jb
        simp(disch:=first|assumption|omega) only[ak,eY]
       .omega
       .omega
       .exact fr
     .by_cases hz:(ts (x-1)).length=0
      .have he:kM (ts (x-1)) (bs (x-1))=.aO:=by unfold kM;rw[ab hz]
       simp(disch:=try exact jz)only[go_sem,W3,uF,au U2,U2,he]
       refine⟨nc-(i+1),jb,i+1,aJ ts (x-1) (ts (x-1)++[⟨.ofNat i,false,mV ((Int.ofNat (0):Int):Rat)⟩]),aJ bs (x-1) (σ3.aj+1+1),rfl,jb,rfl,?_,?_,TI.push (i:=i) ⟨KZ.b,KZ.f,KZ.g,λt ht=>?_,KZ.n,KZ.fr⟩ jb (hgood false (0) jb) ?_ ?_ ?_ ?_ ?_ ?_⟩
       .exact q1'
       .exact q2'
       .exact hT.l t ht
       .rw[hz,ay]
       .rw[ak _ _ _ _ jb,ay,hz];rfl
       .intro b h1 h2 h3
        simp(disch:=omega) only[ak]
       .omega
       .omega
       .exact fr
      .have he:=jg (l:=ts (x-1)) jb (bs (x-1))
       obtain⟨k1,k2,k3⟩:=KZ.f.blk (x-1) jb jb
       simp(disch:=try exact jz)only[go_sem,W3,uF,au U2,U2,he,k1,hpt]
       refine⟨nc-(i+1),jb,i+1,aJ ts (x-1) (ts (x-1)++[⟨.ofNat i,false,mV ((Int.ofNat (0):Int):Rat)⟩]),aJ bs (x-1) (σ3.aj+1+1),rfl,jb,rfl,?_,?_,TI.push (i:=i) ⟨KZ.b,KZ.f,KZ.g,λt ht=>?_,KZ.n,KZ.fr⟩ jb (hgood false (0) jb) ?_ ?_ ?_ ?_ ?_ ?_⟩
       .exact q1'
       .exact q2'
       .exact hT.l t ht
       .rw[ay]
       .rw[ak _ _ _ _ jb,ay];rfl
       .intro b h1 h2 h3
        have h3:=h3 jb
        simp(disch:=first|assumption|omega) only[ak,eY]
       .omega
       .omega
       .exact fr
  .have:i=nc:=jb
   subst this
   simp(disch:=try exact jz)only[go_sem,am]
   exact⟨ts,bs,t2,t3,t5,q1,q2,hT⟩
 .rintro _ tm J' ⟨rfl,ts,bs,t2,t3,t5,q1,q2,hT⟩
  have hF:=hT.fr
  have hle:=hT.fr.le
  have hn:=hT.n
  have U2:=hT.b
  have hr0:=vM p0 8 65535 b0
  have hr1:=vM p0 32 65535 b0
  have hr2:=vM p0 96 65535 b0
  show bM EN (.seq _ _) _ _ _
  refine aes (λtm σ3=>∃ts bs i2,i2<=nc+1/\r8 tm 2=.c (.ptr J.aj 0)/\r8 tm 5=.c (.sl (J.aj+1+1) 0 3 (.ex 3))/\σ3.h J.aj=some ⟨[x1,x2,x3,C,A],none⟩/\TI J σ3 (J.aj+1+1) i2 nc al ts bs) ?_ ?_
  .simp(disch:=try exact jz)only[go_sem,t3,au q2]
   refine aH (λhcap=>?_) (λhcap=>?_)
   .generalize hx:p0/32%3=x at*
    have hx3:x<3:=jb
    have hkn:=qO (ts x) (bs x)
    have hpl:=aeu (ts x)
    have hpt:=ZG (ts x)
    have hxl:=hT.l x hx3
    have hgood:U1 nc al ⟨-1,true,mV ((Int.ofNat (p0/96%7):Int):Rat)⟩:=⟨.inl ⟨rfl,rfl⟩,_,jb,rfl⟩
    by_cases hz:(ts x).length=0
    .have he:kM (ts x) (bs x)=.aO:=by unfold kM;rw[ab hz]
     simp(disch:=try exact jz)only[go_sem,W3,hx,au q2,au U2,U2,he]
     refine⟨aJ ts x (ts x++[⟨-1,true,mV ((Int.ofNat (p0/96%7):Int):Rat)⟩]),aJ bs x (J'.aj+1),nc+1,jb,q1,TI.push hT hx3 hgood ?_ ?_ ?_ ?_ ?_ ?_⟩
     .rw[hz,ay]
     .rw[ak _ _ _ _ jb,ay,hz];rfl
     .intro b h1 h2 h3
      simp(disch:=omega) only[ak]
     .omega
     .omega
     .exact fr
    .have he:=jg (l:=ts x) jb (bs x)
     obtain⟨k1,k2,k3⟩:=hT.f.blk x hx3 jb
     simp(disch:=try exact jz)only[go_sem,W3,hx,au q2,au U2,U2,he,k1,hpt]
     refine⟨aJ ts x (ts x++[⟨-1,true,mV ((Int.ofNat (p0/96%7):Int):Rat)⟩]),aJ bs x (J'.aj+1),nc+1,jb,q1,TI.push hT hx3 hgood ?_ ?_ ?_ ?_ ?_ ?_⟩
     .rw[ay]
     .rw[ak _ _ _ _ jb,ay];rfl
     .intro b h1 h2 h3
      have h3:=h3 jb
      simp(disch:=first|assumption|omega) only[ak,eY]
     .omega
     .omega
     .exact fr
   .simp(disch:=try exact jz)only[go_sem,am]
    exact⟨ts,bs,nc,jb,t2,t5,q1,hT⟩
  .rintro tm σ3 ⟨ts,bs,i2,hi2,t2,t5,q1,hT⟩
   have hF:=hT.fr
   have hle:=hT.fr.le
   have hn:=hT.n
   obtain⟨T,hT1,hT2⟩:=hA
   have WT:∀j,j<al.length->(T j).kn=true:=λj hj=>by obtain⟨b,o,c,e,-,hld⟩:=hT1.pos jb;exact(tH (hld j hj)).2
   have hal:=hl.1
   have hAk:=hT1.kn
   by_cases h0:al.length=0
   .have hA0:A=.aO\/∃b o c,A=.sl b o 0 c:=by
     rcases hT1 with⟨-,e⟩|⟨b,o,c,e,-⟩
     .exact .inl e
     .exact .inr ⟨b,o,c,by rw[e,h0]⟩
    have hfin:∀h':Tr Bk,h'=hset (hset σ3.h σ3.aj ⟨[.sl (J.aj+1+1) 0 3 (.ex 3)],none⟩) (σ3.aj+1) ⟨[.sl (J.aj+1+1) 0 3 (.ex 3)],some (1,93)⟩->(∃rv a,V.c (.sl (σ3.aj+1) 0 1 .opn)=.c rv/\iH (λb=>p b\/J.aj<=b/\b<σ3.aj+1+1) h' rv (al++[a])/\a.length=3/\∀t,t<3->GV nc al (ix a t)/\(ix a t).length<=nc+1)/\Fr J ⟨h',σ3.aj+1+1⟩:=λh' e=>by subst e;have:=agree_end (rb:=σ3.aj+1) (n':=σ3.aj+1+1) (h':=hset (hset σ3.h σ3.aj ⟨[.sl (J.aj+1+1) 0 3 (.ex 3)],none⟩) (σ3.aj+1) ⟨[.sl (J.aj+1+1) 0 3 (.ex 3)],some (1,93)⟩) hW hT2 WT hT hi2 jb (by rw[ay,h0];rfl) (λb9 h9=>by simp(disch:=omega) only[ak]) jb jb (fr);rw[h0]at this;exact this
    rcases hA0 with rfl|⟨b,o,c,rfl⟩
    .simp(disch:=try exact jz)only[go_sem,W3,au q1,hAk]
     exact hfin _ rfl
    .simp(disch:=try exact jz)only[go_sem,W3,au q1,hAk]
     exact hfin _ rfl
   .obtain⟨b,o,c,rfl,-,hld⟩:=hT1.pos jb
    have hbl:=hW.dh (hld 0 jb)
    obtain⟨kk,e1,e2,e3,e4,e5⟩:=UG jb λi hi=>hF.ld hW (hld i hi)
    simp(disch:=try exact jz)only[go_sem,W3,au q1,hAk,e1,e3,e4,e5,e2]
    refine agree_end hW hT2 WT hT hi2 jb ?_ ?_ jb jb ?_
    .rw[ay,jO (e:=1) (G:=λi=>[T i]) (λ_=>rfl),jv]
     congr 2
     refine bf λj hj=>?_
     unfold iC
     by_cases e:j=al.length
     .rw[ab e,ae jb]
     .rw[ae e,ab jb]
    .intro b9 h9
     simp(disch:=omega) only[ak,eY]
    .exact fr
end Go.Proofs.Xe
