import Derived.Test.YtchhojplceoifaaGreatDoorYf21
set_option linter.all false
set_option maxRecDepth 100000
set_option maxHeartbeats 8000000
namespace Go.Proofs.Xe
open Go.RowKit Go.Proofs.Ins
def Gn(n i:Nat)(x:C5):Prop:=(x.h=-1\/∃j:Nat,j<n/\j≠i/\x.h=(j:Int))/\(∃r:Nat,r<=7/\x.r=(r:Int))/\∃v,x.a=mP (amt v)
def Gp(nc:Nat)(al:List fD):Prop:=al.length<=2/\∀j,j<al.length->(ix al j).length=3/\∀t,t<3->Gj nc (al.take j) (ix (ix al j) t)/\(ix (ix al j) t).length<=nc+1
section
variable {h h' : Tr Bk} {dv:B} {n eb:Nat} {m:Nat→Rat} {cl:Nat→List C5} {bs:Nat→Nat} {A:Nat→B} {al:Nat→List fD} {dl:List qx} {lo hi:Nat}
def ato{i nx:Nat}(hi:i<n)(x:C5):yS (bC n (rF m cl bs A)) (i*5+3) [.sl nx 0 ((cl i).length+1) .opn]=some (bC n (rF m (aN cl i (cl i++[x])) (aN bs i nx) A)):=by
 rw[yt (e:=5) (λ_=>rfl) hi kc];show some _=some _;congr 1;refine bH λj hj=>?_;unfold iR;by_cases e:j=i
 .subst e;rw[ae rfl];unfold rF;rw[aK,aK,iY (l:=cl j++[x]) kc,aD];rfl
 .rw[ab e];unfold rF;rw[aS _ _ _ _ e,aS _ _ _ _ e]
def an8{i:Nat}{rv:B}(hi:i<n):yS (bC n (rF m cl bs A)) (i*5+4) [rv]=some (bC n (rF m cl bs (aN A i rv))):=by
 rw[yt (e:=5) (λ_=>rfl) hi kc];show some _=some _;congr 1;refine bH λj hj=>?_;unfold iR;by_cases e:j=i
 .subst e;rw[ae rfl];unfold rF;rw[aK];rfl
 .rw[ab e];unfold rF;rw[aS _ _ _ _ e]
def lN.push(ho:lN h dv n eb m cl bs A al dl lo hi){i nx:Nat}(hi':i<n)(x:C5)(hnx:hi<=nx){hi2:Nat}(h2:nx<hi2)(he:h' eb=some ⟨bC n (rF m (aN cl i (cl i++[x])) (aN bs i nx) A),some (5,60)⟩)
  (hx:h' nx=some ⟨bC (cl i).length (clC (cl i))++Xb x,some (5,84)⟩) (hb:∀b,lo<=b->b<hi->b≠eb->(0<(cl i).length->b≠bs i)->h' b=h b):lN h' dv n eb m (aN cl i (cl i++[x])) (aN bs i nx) A al dl lo hi2:=by
 have hq:∀b,Qt lo hi eb n cl bs b->Qt lo hi2 eb n (aN cl i (cl i++[x])) (aN bs i nx) b:=λb q=>⟨q.1,by have:=q.2.1;omega,q.2.2.1,λj hj hp=>by
  by_cases e:j=i
  .subst e;rw[aK];have:=q.2.1;omega
  .rw[aS _ _ _ _ e]at hp⊢;exact q.2.2.2 j hj hp⟩
 have hk:∀b,Qt lo hi eb n cl bs b->h' b=h b:=λb q=>hb b q.1 q.2.1 q.2.2.1 λhp=>q.2.2.2 i hi' hp
 have hlo:=ho.elo
 have hhi:=ho.ehi
 refine⟨he,ho.elo,jb,λj hj hp=>?_,λa b ha hb' pa pb e=>?_,λj hj=>(ho.a j hj).keep hk hq,ho.d.keep hk hq⟩
 .by_cases e:j=i
  .subst e
   rw[aK,aK,aD,bZ]
   refine⟨?_,jb,h2,jb⟩
   rw[hx,jw]
   congr 2
   refine bH λk hk=>?_
   unfold iR clC
   split
   .next e=>rw[e,gX]
   .rw[gW _ _ jb]
  .rw[aS _ _ _ _ e]at hp⊢
   rw[aS _ _ _ _ e]
   obtain⟨k1,k2,k3,k4⟩:=ho.c j hj hp
   exact⟨by rw[hb _ k2 k3 k4 λhp2 e2=>e (ho.inj j i hj hi' hp hp2 e2)];exact k1,k2,jb,k4⟩
 .by_cases e1:a=i
  .by_cases e2:b=i
   .rw[e1,e2]
   .rw[e1,aK,aS _ _ _ _ e2]at e
    rw[aS _ _ _ _ e2]at pb
    have:=(ho.c b hb' pb).2.2.1
    omega
  .by_cases e2:b=i
   .rw[e2,aK,aS _ _ _ _ e1]at e
    rw[aS _ _ _ _ e1]at pa
    have:=(ho.c a ha pa).2.2.1
    omega
   .rw[aS _ _ _ _ e1]at pa
    rw[aS _ _ _ _ e2]at pb
    rw[aS _ _ _ _ e1,aS _ _ _ _ e2]at e
    exact ho.inj a b ha hb' pa pb e
def lN.azw(ho:lN h dv n eb m cl bs A al dl lo hi){i:Nat}(hi':i<n){rv:B}{l:List fD}{hi2:Nat}(h2:hi<=hi2)(he:h' eb=some ⟨bC n (rF m cl bs (aN A i rv)),some (5,60)⟩)
  (hb:∀b,lo<=b->b<hi->b≠eb->h' b=h b) (hr:iG (Qt lo hi2 eb n cl bs) h' rv l):lN h' dv n eb m cl bs (aN A i rv) (aN al i l) dl lo hi2:=by
 have hq:∀b,Qt lo hi eb n cl bs b->Qt lo hi2 eb n cl bs b:=λb q=>⟨q.1,by have:=q.2.1;omega,q.2.2⟩
 have hk:∀b,Qt lo hi eb n cl bs b->h' b=h b:=λb q=>hb b q.1 q.2.1 q.2.2.1
 refine⟨he,ho.elo,by have:=ho.ehi;omega,λj hj hp=>?_,ho.inj,λj hj=>?_,ho.d.keep hk hq⟩
 .obtain⟨k1,k2,k3,k4⟩:=ho.c j hj hp
  exact⟨by rw[hb _ k2 k3 k4];exact k1,k2,jb,k4⟩
 .by_cases e:j=i
  .subst e;rw[aK,aK];exact hr
  .rw[aS _ _ _ _ e,aS _ _ _ _ e];exact(ho.a j hj).keep hk hq
def lN.azx(ho:lN h dv n eb m cl bs A al dl lo hi){yT:B}{l:List qx}{hi2:Nat}(h2:hi<=hi2)(hb:∀b,lo<=b->b<hi->h' b=h b)(hr:jK (Qt lo hi2 eb n cl bs) h' yT l):lN h' yT n eb m cl bs A al l lo hi2:=by have:=ho.mono hb h2;exact⟨this.e,this.elo,this.ehi,this.c,this.inj,this.a,hr⟩
def iG.none(p:Nat->Prop)(h:Tr Bk):iG p h .aP []:=⟨λ_=>.aP,.inl ⟨rfl,rfl⟩,λi hi=>by simp at hi⟩
def jK.none(p:Nat->Prop)(h:Tr Bk):jK p h .aP []:=⟨λ_=>.aP,.inl ⟨rfl,rfl⟩,λi hi=>by simp at hi⟩
def lN.start(he:h eb=some ⟨bC n (rF m (λ_=>[]) (λ_=>0) (λ_=>.aP)),some (5,60)⟩)(h1:lo<=eb)(h2:eb<hi):lN h .aP n eb m (λ_=>[]) (λ_=>0) (λ_=>.aP) (λ_=>[]) [] lo hi:=
 ⟨he,h1,h2,λi _ hp=>by simp at hp,λi j _ _ hp=>by simp at hp,λ_ _=>iG.none _ _,jK.none _ _⟩
def an9(l:List C5):(bC l.length (clC l)).take (l.length*5)=bC l.length (clC l):=jC λ_=>rfl
def atp(l:List C5):l.length*5<=(bC l.length (clC l)).length:=by rw[qB (e:=5) λ_=>rfl];exact jp
def Gn.snoc{i:Nat}{l:List C5}{x:C5}(hl:∀k,k<l.length->Gn n i (ix l k))(hx:Gn n i x):∀k,k<(l++[x]).length->Gn n i (ix (l++[x]) k):=λk hk=>by
 rw[aD,bZ]at hk;by_cases e:k=l.length
 .rw[e,gX];exact hx
 .rw[gW _ _ jb];exact hl k jb
end
structure GI(σ σ':St)(t11 n eb:Nat)(dv:B)(mm:Nat->Rat)(cl:Nat->List C5)(bs:Nat->Nat)(A:Nat->B)(al:Nat->List fD)(dl:List qx):Prop where
 b:σ'.h t11=some ⟨[.sl eb 0 n .opn,dv],none⟩
 g:lN σ'.h dv n eb mm cl bs A al dl (t11+1) σ'.aj
 m:∀i,i<n->∃v,mm i=amt v
 c:∀i,i<n->(cl i).length<=6/\∀k,k<(cl i).length->Gn n i (ix (cl i) k)
 a:∀i,i<n->Gp (cl i).length (al i)
 d:dl.length<=3/\∀j,j<dl.length->(ix dl j).l.length<=4/\∃v,(ix dl j).w=mP (amt v)
 nx:t11+1<=σ'.aj
 lo:σ.aj<=t11
 fr:Fr σ σ'
 dg:∀j,j<dl.length->LGf (gu n mm cl al) (dl.take j) (ix dl j).l
def GI.step{σ σ' σ3:St}{t11 n eb:Nat}{dv:B}{m:Nat->Rat}{cl:Nat->List C5}{bs:Nat->Nat}{A:Nat->B}{al:Nat->List fD}{dl:List qx}(hI:GI σ σ' t11 n eb dv m cl bs A al dl)(hf:Fr σ' σ3):GI σ σ3 t11 n eb dv m cl bs A al dl:=by have hn:=hI.nx;have hle:=hf.le;exact⟨by rw[hf.old _ jb];exact hI.b,hI.g.mono (λb _ hb=>hf.old b hb) hle,hI.m,hI.c,hI.a,hI.d,jb,hI.lo,hI.fr.trans hf,hI.dg⟩
def GI.push{σ σ':St}{t11 n eb:Nat}{dv:B}{m:Nat->Rat}{cl:Nat->List C5}{bs:Nat->Nat}(hI:GI σ σ' t11 n eb dv m cl bs (λ_=>.aP) (λ_=>[]) []){i nx n':Nat}{x:C5}{h':Tr Bk}(hi:i<n)(hl:(cl i).length<=5)(hx:Gn n i x)(hb:h' t11=some ⟨[.sl eb 0 n .opn,dv],none⟩)
  (he:h' eb=some ⟨bC n (rF m (aN cl i (cl i++[x])) (aN bs i nx) (λ_=>.aP)),some (5,60)⟩) (hc:h' nx=some ⟨bC (cl i).length (clC (cl i))++Xb x,some (5,84)⟩)
  (ho:∀b,t11+1<=b->b<σ'.aj->b≠eb->(0<(cl i).length->b≠bs i)->h' b=σ'.h b) (hn:σ'.aj<=nx) (hn':nx<n') (hf:Fr σ ⟨h',n'⟩):GI σ ⟨h',n'⟩ t11 n eb dv m (aN cl i (cl i++[x])) (aN bs i nx) (λ_=>.aP) (λ_=>[]) []:=by
 have hn0:=hI.nx
 refine⟨hb,hI.g.push hi x hn hn' he hc ho,hI.m,λj hj=>?_,λj hj=>⟨br _,λk hk=>by simp at hk⟩,hI.d,by show _<=n';omega,hI.lo,hf,λj hj=>by simp at hj⟩
 by_cases e:j=i
 .subst e
  rw[aK,aD,bZ]
  refine⟨jb,λk hk=>?_⟩
  exact Gn.snoc (hI.c j hj).2 hx k (by rw[aD,bZ];exact hk)
 .rw[aS _ _ _ _ e];exact hI.c j hj
def Gp.len{nc:Nat}{al:List fD}(h:Gp nc al)(hn:nc<=10):atj al:=⟨by have:=h.1;omega,λj hj=>by obtain⟨h1,h2⟩:=h.2 j hj;exact⟨jb,λt ht=>by have:=(h2 t jb).2;omega⟩⟩
def Gp.snoc{nc:Nat}{al:List fD}{a:fD}(h:Gp nc al)(h1:al.length<=1)(ha:a.length=3)(hg:∀t,t<3->Gj nc al (ix a t)/\(ix a t).length<=nc+1):Gp nc (al++[a]):=by
 refine⟨by simp;omega,λj hj=>?_⟩;rw[aD,bZ]at hj;by_cases e:j=al.length
 .subst e;rw[gX,List.take_left']
  .exact⟨ha,hg⟩
  .rfl
 .rw[gW _ _ jb,ic jb];exact h.2 j jb
def GI.agr{σ σ' σ3:St}{t11 n eb:Nat}{dv:B}{m:Nat->Rat}{cl:Nat->List C5}{bs:Nat->Nat}{A:Nat->B}{al:Nat->List fD}{dl:List qx}(hI:GI σ σ' t11 n eb dv m cl bs A al dl)(hf3:Fr σ' σ3)(h0:dl=[]){i n':Nat}{rv:B}{a:fD}{h':Tr Bk}(hi:i<n)(h1:(al i).length<=1)
  (hr:iG (λb=>Qt (t11+1) σ'.aj eb n cl bs b\/σ'.aj<=b/\b<σ3.aj) σ3.h rv (al i++[a])) (ha:a.length=3) (hg:∀t,t<3->Gj (cl i).length (al i) (ix a t)/\(ix a t).length<=(cl i).length+1)
  (hb:h' t11=some ⟨[.sl eb 0 n .opn,dv],none⟩) (he:h' eb=some ⟨bC n (rF m cl bs (aN A i rv)),some (5,60)⟩) (ho:∀b,t11+1<=b->b<σ3.aj->b≠eb->h' b=σ3.h b) (hn:σ3.aj<=n') (hf:Fr σ ⟨h',n'⟩):GI σ ⟨h',n'⟩ t11 n eb dv m cl bs (aN A i rv) (aN al i (al i++[a])) dl:=by
 have hn0:=hI.nx
 have hle:=hf3.le
 have atq:=hI.g.ehi
 refine⟨hb,(hI.g.mono (λb _ hb=>hf3.old b hb) hle).azw hi hn he (λb b1 b2 b3=>ho b b1 b2 b3) (hr.keep (λb hq=>?_) λb hq=>?_),hI.m,hI.c,λj hj=>?_,hI.d,by show _<=n';omega,hI.lo,hf,λj hj=>by rw[h0]at hj;simp at hj⟩
 .rcases hq with hq|hq
  .exact ho b hq.1 (by have:=hq.2.1;omega) hq.2.2.1
  .exact ho b jb hq.2 jb
 .rcases hq with hq|hq
  .exact⟨hq.1,show b<n' by have:=hq.2.1;omega,hq.2.2⟩
  .obtain⟨h8,h9⟩:=hq
   exact⟨jb,show b<n' by omega,jb,λj hj hp=>by have:=(hI.g.c j hj hp).2.2.1;omega⟩
 .by_cases e:j=i
  .subst e;rw[aK];exact(hI.a j hj).snoc h1 ha hg
  .rw[aS _ _ _ _ e];exact hI.a j hj
def GI.dbt{σ σ' σ3:St}{t11 n eb:Nat}{dv:B}{m:Nat->Rat}{cl:Nat->List C5}{bs:Nat->Nat}{A:Nat->B}{al:Nat->List fD}{dl:List qx}(hI:GI σ σ' t11 n eb dv m cl bs A al dl)(hf3:Fr σ' σ3){n':Nat}{rv:B}{d:qx}{h':Tr Bk}(h1:dl.length<=2)
  (hr:jK (λb=>Qt (t11+1) σ'.aj eb n cl bs b\/σ'.aj<=b/\b<σ3.aj) σ3.h rv (dl++[d])) (hd:d.l.length<=4/\∃v,d.w=mP (amt v)) (hdg:LGf (gu n m cl al) dl d.l)
  (hb:h' t11=some ⟨[.sl eb 0 n .opn,rv],none⟩) (ho:∀b,t11+1<=b->b<σ3.aj->h' b=σ3.h b) (hn:σ3.aj<=n') (hf:Fr σ ⟨h',n'⟩):GI σ ⟨h',n'⟩ t11 n eb rv m cl bs A al (dl++[d]):=by
 have hn0:=hI.nx
 have hle:=hf3.le
 have atq:=hI.g.ehi
 refine⟨hb,(hI.g.mono (λb _ hb=>hf3.old b hb) hle).azx hn (λb b1 b2=>ho b b1 b2) (hr.keep (λb hq=>?_) λb hq=>?_),hI.m,hI.c,hI.a,⟨by simp;omega,λj hj=>?_⟩,by show _<=n';omega,hI.lo,hf,λj hj=>?_⟩
 .rcases hq with hq|hq
  .exact ho b hq.1 (by have:=hq.2.1;omega)
  .exact ho b jb hq.2
 .rcases hq with hq|hq
  .exact⟨hq.1,show b<n' by have:=hq.2.1;omega,hq.2.2⟩
  .obtain⟨h8,h9⟩:=hq
   exact⟨jb,show b<n' by omega,jb,λj hj hp=>by have:=(hI.g.c j hj hp).2.2.1;omega⟩
 .rw[aD,bZ]at hj
  by_cases e:j=dl.length
  .rw[e,gX];exact hd
  .rw[gW _ _ jb];exact hI.d.2 j jb
 .rw[aD,bZ]at hj
  by_cases e:j=dl.length
  .rw[e,gX,List.take_left' rfl];exact hdg
  .rw[gW _ _ jb,ic jb];exact hI.dg j jb
def Pj:amt 0=0:=by rw[acN jj];show((0:Int):Rat)/((1:Int):Rat)=0;grind
structure G0(σ σ':St)(t11 i:Nat)(ev:B)(m:Nat->Rat):Prop where
 b:σ'.h t11=some ⟨[ev,.aP],none⟩
 e:(i=0/\ev=.aP)\/∃eb,ev=.sl eb 0 i .opn/\0<i/\σ'.h eb=some ⟨bC i (rF m (λ_=>[]) (λ_=>0) (λ_=>.aP)),some (5,60)⟩/\t11+1<=eb/\eb<σ'.aj
 m:∀j,j<i->∃v,m j=amt v
 nx:t11+1<=σ'.aj
 fr:Fr σ σ'
def ajo(i:Nat)(m:Nat->Rat)(cl:Nat->List C5)(bs:Nat->Nat)(A:Nat->B):(bC i (rF m cl bs A)).take (i*5)=bC i (rF m cl bs A):=jC λ_=>rfl
def aoa(i:Nat)(m:Nat->Rat)(cl:Nat->List C5)(bs:Nat->Nat)(A:Nat->B):i*5<=(bC i (rF m cl bs A)).length:=by rw[qB (e:=5) λ_=>rfl];exact jp
def G0.push{σ σ':St}{t11 i:Nat}{ev:B}{m:Nat->Rat}(hG:G0 σ σ' t11 i ev m){q:Rat}(hq:∃v,q=amt v){h':Tr Bk}{nx n':Nat}(hb:h' t11=some ⟨[.sl nx 0 (i+1) .opn,.aP],none⟩)
  (hx:h' nx=some ⟨bC i (rF m (λ_=>[]) (λ_=>0) (λ_=>.aP))++[.bool (rn q),.str (rs q),.str (rd q),.aP,.aP],some (5,60)⟩) (hn:σ'.aj<=nx) (hn':nx<n') (hf:Fr σ ⟨h',n'⟩):G0 σ ⟨h',n'⟩ t11 (i+1) (.sl nx 0 (i+1) .opn) (aN m i q):=by
 have hn0:=hG.nx
 refine⟨hb,.inr ⟨nx,rfl,jb,?_,jb,hn'⟩,λj hj=>?_,by show _<=n';omega,hf⟩
 .show h' nx=_
  rw[hx,jw]
  congr 2
  refine bH λj hj=>?_
  unfold iR rF
  by_cases e:j=i
  .rw[ae e,e,aK];rfl
  .rw[ab e,aS _ _ _ _ e]
 .unfold aN
  split
  .exact hq
  .exact hG.m j jb
def aob{σ:St}(hW:WF σ){nm KZ nl np nd:Nat}(hnm:nm<=255){cv lv pv dv:B}(M:Nat->Nat)(L P D:Nat->Nat->Nat)(hcv:HL σ.h 1 cv KZ λi=>[.int .u16 (.ofNat (M i))])(hM:∀i,i<KZ->M i<=65535)
  (hlv:HL σ.h 4 lv nl λi=>[.int .u16 (.ofNat (L i 0)),.int .u16 (.ofNat (L i 1)),.int .u16 (.ofNat (L i 2)),.int .u16 (.ofNat (L i 3))]) (hL:∀i j,i<nl->L i j<=65535) (hnl:nl<=9223372036854775806)
  (hpv:HL σ.h 3 pv np λi=>[.int .u16 (.ofNat (P i 0)),.int .u16 (.ofNat (P i 1)),.int .u16 (.ofNat (P i 2))]) (hP:∀i j,i<np->P i j<=65535) (hnp:np<=9223372036854775806)
  (hdv:HL σ.h 3 dv nd λi=>[.int .u16 (.ofNat (D i 0)),.int .u16 (.ofNat (D i 1)),.int .u16 (.ofNat (D i 2))]) (hD:∀i j,i<nd->D i j<=65535) (hnd:nd<=9223372036854775806):
  aC EN 10 [.c (.int .u8 (.ofNat nm)),.c cv,.c lv,.c pv,.c dv] σ λr σ'=>∃eb yT m cl bs A al dl,r=.agg [.sl eb 0 (1+nm%4) .opn,yT]/\GI σ σ' (σ.aj+1) (1+nm%4) eb yT m cl bs A al dl:=by
 refine aO (GN.o _ _) GN.h ?_
 unfold GN
 dsimp only
 simp(disch:=try exact jz) only[go_sem]
 have hs1:1<=1+nm%4:=jb
 have hs4:1+nm%4<=4:=jb
 generalize 1+nm%4=n at*
 refine bM.mono (Q:=λe tm σ'=>e=.exit 0/\∃ev m,Tr.ah tm 2=.c lv/\Tr.ah tm 3=.c pv/\Tr.ah tm 4=.c dv/\Tr.ah tm 10=.c (.ptr σ.aj 0)/\Tr.ah tm 11=.c (.ptr (σ.aj+1) 0)/\Tr.ah tm 12=jN n/\σ'.h σ.aj=some ⟨[.aP,.aP],none⟩/\G0 σ σ' (σ.aj+1) n ev m)
  (aF (λq tm σ'=>∃i ev m,q=n-i/\i<=n/\Tr.ah tm 1=.c cv/\Tr.ah tm 2=.c lv/\Tr.ah tm 3=.c pv/\Tr.ah tm 4=.c dv/\Tr.ah tm 10=.c (.ptr σ.aj 0)/\Tr.ah tm 11=.c (.ptr (σ.aj+1) 0)/\Tr.ah tm 12=jN n/\Tr.ah tm 13=jN i
   /\σ'.h σ.aj=some ⟨[.aP,.aP],none⟩/\G0 σ σ' (σ.aj+1) i ev m) n ?_ ?_) ?_
 .refine⟨0,.aP,λ_=>0,jb,jb,?_⟩
  simp(disch:=try exact jz) only[go_sem,am]
  refine⟨?_,.inl ⟨rfl,rfl⟩,λj hj=>jb,?_,?_⟩
  .rw[aA]
  .show σ.aj+1+1<=σ.aj+1+1;omega
  .exact fr
 .rintro q tm σ' ⟨i,ev,m,rfl,hi,t1,t2,t3,t4,t10,t11,t12,t13,q0,hG⟩
  have hF:=hG.fr
  have hle:=hF.le
  have hnx:=hG.nx
  have hb:=hG.b
  have hlen:=hcv.len
  simp(disch:=try exact jz) only[go_sem,t1,t2,t3,t4,t10,t11,t12,t13,aG]
  refine aH (λhlt=>?_) (λhlt=>?_)
  .simp(disch:=try exact jz) only[go_sem,t1,t2,t3,t4,t10,t11,t12,t13,hlen,aG]
   have hel:=aoa i m (λ_=>[]) (λ_=>0) (λ_=>.aP)
   have het:=ajo i m (λ_=>[]) (λ_=>0) (λ_=>.aP)
   refine aH (λhc=>?_) (λhc=>?_)
   .obtain⟨b,o,c,rfl,hld⟩:=hcv.one jb
    have hld:=hF.ld hW (hld i hc)
    have hbl:=hF.wf.dA hld
    have hMi:=hM i hc
    rcases hG.e with⟨rfl,rfl⟩|⟨eb,rfl,hi0,k1,k2,k3⟩
    .simp(disch:=try exact jz) only[go_sem,t1,t2,t3,t4,t10,t11,t12,t13,hld,au hb,hb]
     refine⟨n-(1),jb,1,_,aN m 0 (amt (M 0)),rfl,jb,rfl,q0,hG.push (nx:=σ'.aj+1+1) ⟨_,rfl⟩ ?_ ?_ ?_ ?_ ?_⟩
     .rw[aA]
     .rw[ak _ _ _ _ jb,aA]<;>rfl
     .omega
     .omega
     .exact fr
    .simp(disch:=try exact jz) only[go_sem,t1,t2,t3,t4,t10,t11,t12,t13,hld,au hb,hb,k1,het]
     refine⟨n-(i+1),jb,i+1,_,aN m i (amt (M i)),rfl,jb,rfl,q0,hG.push (nx:=σ'.aj+1+1) ⟨_,rfl⟩ ?_ ?_ ?_ ?_ ?_⟩
     .rw[aA]
     .rw[ak _ _ _ _ jb,aA]<;>rfl
     .omega
     .omega
     .exact fr
   .rcases hG.e with⟨rfl,rfl⟩|⟨eb,rfl,hi0,k1,k2,k3⟩
    .simp(disch:=try exact jz) only[go_sem,t1,t2,t3,t4,t10,t11,t12,t13,au hb,hb]
     refine⟨n-(1),jb,1,_,aN m 0 (0),rfl,jb,rfl,q0,hG.push (nx:=σ'.aj+1+1) ⟨0,Pj.symm⟩ ?_ ?_ ?_ ?_ ?_⟩
     .rw[aA]
     .rw[ak _ _ _ _ jb,aA]<;>rfl
     .omega
     .omega
     .exact fr
    .simp(disch:=try exact jz) only[go_sem,t1,t2,t3,t4,t10,t11,t12,t13,au hb,hb,k1,het]
     refine⟨n-(i+1),jb,i+1,_,aN m i (0),rfl,jb,rfl,q0,hG.push (nx:=σ'.aj+1+1) ⟨0,Pj.symm⟩ ?_ ?_ ?_ ?_ ?_⟩
     .rw[aA]
     .rw[ak _ _ _ _ jb,aA]<;>rfl
     .omega
     .omega
     .exact fr
  .have:i=n:=jb
   subst this
   simp(disch:=try exact jz) only[go_sem,t1,am]
   exact⟨ev,m,t2,t3,t4,t10,t11,t12,q0,hG⟩
 .rintro _ tm σ' ⟨rfl,ev,m,t2,t3,t4,t10,t11,t12,q0,hG⟩
  have hlenL:=hlv.len
  obtain⟨eb,rfl,hn0,k1,k2,k3⟩:=hG.e.resolve_left jb
  have hG1:GI σ σ' (σ.aj+1) n eb .aP m (λ_=>[]) (λ_=>0) (λ_=>.aP) (λ_=>[]) []:=
   ⟨hG.b,lN.start k1 k2 k3,hG.m,λi hi=>⟨br _,λk hk=>by simp at hk⟩,λi hi=>⟨br _,λj hj=>by simp at hj⟩,⟨br _,λj hj=>by simp at hj⟩,hG.nx,jb,hG.fr,λj hj=>by simp at hj⟩
  simp(disch:=try exact jz) only[go_sem,t2,hlenL]
  refine bM.mono (Q:=λe tm σ'=>e=.exit 2/\∃cl bs,Tr.ah tm 3=.c pv/\Tr.ah tm 4=.c dv/\Tr.ah tm 10=.c (.ptr σ.aj 0)/\Tr.ah tm 11=.c (.ptr (σ.aj+1) 0)/\Tr.ah tm 12=jN n/\σ'.h σ.aj=some ⟨[.aP,.aP],none⟩/\GI σ σ' (σ.aj+1) n eb .aP m cl bs (λ_=>.aP) (λ_=>[]) [])
   (aF (λq tm σ'=>∃k cl bs,q=nl-k/\k<=nl/\Tr.ah tm 3=.c pv/\Tr.ah tm 4=.c dv/\Tr.ah tm 10=.c (.ptr σ.aj 0)/\Tr.ah tm 11=.c (.ptr (σ.aj+1) 0)/\Tr.ah tm 12=jN n/\Tr.ah tm 51=.c lv/\Tr.ah tm 52=jN nl/\Tr.ah tm 53=jN k/\σ'.h σ.aj=some ⟨[.aP,.aP],none⟩/\GI σ σ' (σ.aj+1) n eb .aP m cl bs (λ_=>.aP) (λ_=>[]) []) nl ?_ ?_) ?_
  .refine⟨0,λ_=>[],λ_=>0,jb,jb,?_⟩
   simp(disch:=try exact jz) only[go_sem,t2,t3,t4,t10,t11,t12,am]
   exact⟨q0,hG1⟩
  .rintro q tm σ' ⟨k,cl,bs,rfl,hk,t3,t4,t10,t11,t12,t51,t52,t53,q0,hI⟩
   have hF:=hI.fr
   have hle:=hF.le
   have hnx:=hI.nx
   have hb:=hI.b
   have azy:=hI.g.elo
   have atq:=hI.g.ehi
   have heE:=hI.g.e
   simp(disch:=try exact jz) only[go_sem,t3,t4,t10,t11,t12,t51,t52,t53,aG]
   refine aH (λhlt=>?_) (λhlt=>?_)
   .obtain⟨b,o,c,rfl,hld⟩:=hlv.pos jb
    have hld:=hF.ld hW (hld k hlt)
    have l0:=hL k 0 hlt
    have l1:=hL k 1 hlt
    have l2:=hL k 2 hlt
    have l3:=hL k 3 hlt
    have hm0:L k 0%n<n:=di _ jb
    have Yv:=hI.g.ldC hm0
    have hc6:=(hI.c _ hm0).1
    generalize hx:L k 0%n=i at*
    have hfl:=Ee (cl i) (bs i)
    have hfk:=qC (cl i) (bs i)
    have hge:∀a b:Nat,decide (Int.ofNat a<=Int.ofNat b)=decide (a<=b):=λa b=>by simp
    simp(disch:=try exact jz) only[go_sem,t3,t4,t10,t11,t12,t51,t52,t53,hld,hx,au hb,Yv,hfl,hge]
    refine aH (λh6=>?_) (λh6=>?_)
    .simp(disch:=try exact jz) only[go_sem,t3,t4,t10,t11,t12,t51,t52,t53]
     exact⟨nl-(k+1),jb,k+1,cl,bs,rfl,jb,rfl,q0,hI.step (by have hFr:=Fr.refl hF.wf;exact fr)⟩
    .have hct:=an9 (cl i)
     have hcn:=atp (cl i)
     have hn1:0<n+1:=jb
     have hgood:∀hv:Int,(hv=-1\/∃j:Nat,j<n/\j≠i/\hv=(j:Int))->Gn n i ⟨hv,.ofNat (L k 2%3),mP (amt (L k 3))⟩:=λhv h=>⟨h,⟨L k 2%3,jb,rfl⟩,_,rfl⟩
     have hwC:=λx=>ato (m:=m) (cl:=cl) (bs:=bs) (A:=λ_=>.aP) (nx:=σ'.aj+1+1) hm0 x
     simp(disch:=try exact jz) only[go_sem,t3,t4,t10,t11,t12,t51,t52,t53]
     refine X0 (λhq=>?_) (λhq=>?_)
     .have hw:=hwC ⟨-1,.ofNat (L k 2%3),mP (amt (L k 3))⟩
      by_cases hz:(cl i).length=0
      .have he:kC (cl i) (bs i)=.aP:=by unfold kC;rw[ae hz]
       rw[hz]at hw
       simp(disch:=try exact jz) only[go_sem,t3,t4,t10,t11,t12,t51,t52,t53,hx,au hb,Yv,he,aI heE,heE,hw,hq]
       refine⟨nl-(k+1),jb,k+1,aN cl i (cl i++[⟨-1,.ofNat (L k 2%3),mP (amt (L k 3))⟩]),aN bs i (σ'.aj+1+1),rfl,jb,rfl,q0,hI.push hm0 jb (hgood _ (.inl rfl)) ?_ ?_ ?_ ?_ ?_ ?_ ?_⟩
       .simp(disch:=omega) only[ak,eX];exact hb
       .rw[aA]
       .rw[ak _ _ _ _ jb,aA,hz];rfl
       .intro b9 h9 h8 h7 h6;simp(disch:=first|assumption|omega) only[ak,eX]
       .omega
       .omega
       .exact fr
      .have he:=iY (l:=cl i) jb (bs i)
       obtain⟨c1,c2,c3,c4⟩:=hI.g.c i hm0 jb
       simp(disch:=try exact jz) only[go_sem,t3,t4,t10,t11,t12,t51,t52,t53,hx,au hb,Yv,he,c1,hct,aI heE,heE,hw,hq]
       refine⟨nl-(k+1),jb,k+1,aN cl i (cl i++[⟨-1,.ofNat (L k 2%3),mP (amt (L k 3))⟩]),aN bs i (σ'.aj+1+1),rfl,jb,rfl,q0,hI.push hm0 jb (hgood _ (.inl rfl)) ?_ ?_ ?_ ?_ ?_ ?_ ?_⟩
       .simp(disch:=omega) only[ak,eX];exact hb
       .rw[aA]
       .rw[ak _ _ _ _ jb,aA];rfl
       .intro b9 h9 h8 h7 h6;have h6:=h6 jb;simp(disch:=first|assumption|omega) only[ak,eX]
       .omega
       .omega
       .exact fr
     .simp(disch:=try exact jz) only[go_sem,t3,t4,t10,t11,t12,t51,t52,t53,hq,hge]
      refine aH (λhq2=>?_) (λhq2=>?_)
      .have hw:=hwC ⟨-1,.ofNat (L k 2%3),mP (amt (L k 3))⟩
       by_cases hz:(cl i).length=0
       .have he:kC (cl i) (bs i)=.aP:=by unfold kC;rw[ae hz]
        rw[hz]at hw
        simp(disch:=try exact jz) only[go_sem,t3,t4,t10,t11,t12,t51,t52,t53,hx,au hb,Yv,he,aI heE,heE,hw]
        refine⟨nl-(k+1),jb,k+1,aN cl i (cl i++[⟨-1,.ofNat (L k 2%3),mP (amt (L k 3))⟩]),aN bs i (σ'.aj+1+1),rfl,jb,rfl,q0,hI.push hm0 jb (hgood _ (.inl rfl)) ?_ ?_ ?_ ?_ ?_ ?_ ?_⟩
        .simp(disch:=omega) only[ak,eX];exact hb
        .rw[aA]
        .rw[ak _ _ _ _ jb,aA,hz];rfl
        .intro b9 h9 h8 h7 h6;simp(disch:=first|assumption|omega) only[ak,eX]
        .omega
        .omega
        .exact fr
       .have he:=iY (l:=cl i) jb (bs i)
        obtain⟨c1,c2,c3,c4⟩:=hI.g.c i hm0 jb
        simp(disch:=try exact jz) only[go_sem,t3,t4,t10,t11,t12,t51,t52,t53,hx,au hb,Yv,he,c1,hct,aI heE,heE,hw]
        refine⟨nl-(k+1),jb,k+1,aN cl i (cl i++[⟨-1,.ofNat (L k 2%3),mP (amt (L k 3))⟩]),aN bs i (σ'.aj+1+1),rfl,jb,rfl,q0,hI.push hm0 jb (hgood _ (.inl rfl)) ?_ ?_ ?_ ?_ ?_ ?_ ?_⟩
        .simp(disch:=omega) only[ak,eX];exact hb
        .rw[aA]
        .rw[ak _ _ _ _ jb,aA];rfl
        .intro b9 h9 h8 h7 h6;have h6:=h6 jb;simp(disch:=first|assumption|omega) only[ak,eX]
        .omega
        .omega
        .exact fr
      .have hw:=hwC ⟨.ofNat (L k 1%(n+1)),.ofNat (L k 2%3),mP (amt (L k 3))⟩
       by_cases hz:(cl i).length=0
       .have he:kC (cl i) (bs i)=.aP:=by unfold kC;rw[ae hz]
        rw[hz]at hw
        simp(disch:=try exact jz) only[go_sem,t3,t4,t10,t11,t12,t51,t52,t53,hx,au hb,Yv,he,aI heE,heE,hw]
        refine⟨nl-(k+1),jb,k+1,aN cl i (cl i++[⟨.ofNat (L k 1%(n+1)),.ofNat (L k 2%3),mP (amt (L k 3))⟩]),aN bs i (σ'.aj+1+1),rfl,jb,rfl,q0,hI.push hm0 jb (hgood _ (.inr ⟨_,jb,hq,rfl⟩)) ?_ ?_ ?_ ?_ ?_ ?_ ?_⟩
        .simp(disch:=omega) only[ak,eX];exact hb
        .rw[aA]
        .rw[ak _ _ _ _ jb,aA,hz];rfl
        .intro b9 h9 h8 h7 h6;simp(disch:=first|assumption|omega) only[ak,eX]
        .omega
        .omega
        .exact fr
       .have he:=iY (l:=cl i) jb (bs i)
        obtain⟨c1,c2,c3,c4⟩:=hI.g.c i hm0 jb
        simp(disch:=try exact jz) only[go_sem,t3,t4,t10,t11,t12,t51,t52,t53,hx,au hb,Yv,he,c1,hct,aI heE,heE,hw]
        refine⟨nl-(k+1),jb,k+1,aN cl i (cl i++[⟨.ofNat (L k 1%(n+1)),.ofNat (L k 2%3),mP (amt (L k 3))⟩]),aN bs i (σ'.aj+1+1),rfl,jb,rfl,q0,hI.push hm0 jb (hgood _ (.inr ⟨_,jb,hq,rfl⟩)) ?_ ?_ ?_ ?_ ?_ ?_ ?_⟩
        .simp(disch:=omega) only[ak,eX];exact hb
        .rw[aA]
        .rw[ak _ _ _ _ jb,aA];rfl
        .intro b9 h9 h8 h7 h6;have h6:=h6 jb;simp(disch:=first|assumption|omega) only[ak,eX]
        .omega
        .omega
        .exact fr
   .have:k=nl:=jb
    simp(disch:=try exact jz) only[go_sem,am]
    exact⟨cl,bs,t3,t4,t10,t11,t12,q0,hI⟩
  .rintro _ tm σ' ⟨rfl,cl,bs,t3,t4,t10,t11,t12,q0,hI⟩
   have I4:=hpv.len
   simp(disch:=try exact jz) only[go_sem,t3,I4]
   refine bM.mono (Q:=λe tm σ'=>e=.exit 4/\∃A al,Tr.ah tm 4=.c dv/\Tr.ah tm 10=.c (.ptr σ.aj 0)/\Tr.ah tm 11=.c (.ptr (σ.aj+1) 0)/\σ'.h σ.aj=some ⟨[.aP,.aP],none⟩/\GI σ σ' (σ.aj+1) n eb .aP m cl bs A al [])
    (aF (λq tm σ'=>∃k A al,q=np-k/\k<=np/\Tr.ah tm 4=.c dv/\Tr.ah tm 10=.c (.ptr σ.aj 0)/\Tr.ah tm 11=.c (.ptr (σ.aj+1) 0)/\Tr.ah tm 12=jN n/\Tr.ah tm 107=.c pv/\Tr.ah tm 108=jN np/\Tr.ah tm 109=jN k/\σ'.h σ.aj=some ⟨[.aP,.aP],none⟩/\GI σ σ' (σ.aj+1) n eb .aP m cl bs A al []) np ?_ ?_) ?_
   .refine⟨0,λ_=>.aP,λ_=>[],jb,jb,?_⟩
    simp(disch:=try exact jz) only[go_sem,t3,t4,t10,t11,t12,am]
    exact⟨q0,hI⟩
   .rintro q tm σ' ⟨k,A,al,rfl,hk,t4,t10,t11,t12,t107,VD,t109,q0,hI⟩
    have hF:=hI.fr
    have hle:=hF.le
    have hnx:=hI.nx
    have hb:=hI.b
    have azy:=hI.g.elo
    have atq:=hI.g.ehi
    have heE:=hI.g.e
    simp(disch:=try exact jz) only[go_sem,t4,t10,t11,t12,t107,VD,t109,aG]
    refine aH (λhlt=>?_) (λhlt=>?_)
    .obtain⟨b,o,c,rfl,hld⟩:=hpv.pos jb
     have hld:=hF.ld hW (hld k hlt)
     have l0:=hP k 0 hlt
     have l1:=hP k 1 hlt
     have l2:=hP k 2 hlt
     have hm0:P k 0%n<n:=di _ jb
     have hlA:=hI.g.ldA hm0
     have hlE:=hI.g.ldE hm0
     rw[cL]at hlE
     unfold rF at hlE
     have hc6:=(hI.c _ hm0).1
     have hgA:=hI.a _ hm0
     have hAa:=hI.g.a _ hm0
     generalize hx:P k 0%n=i at*
     have hAl:=hAa.choose_spec.1.len
     have hAk:=hAa.kn
     have hfl:=Ee (cl i) (bs i)
     have hfk:=qC (cl i) (bs i)
     simp(disch:=try exact jz) only[go_sem,t4,t10,t11,t12,t107,VD,t109,hld,hx,au hb,hlA,hAl,aG]
     refine aH (λh2=>?_) (λh2=>?_)
     .simp(disch:=try exact jz) only[go_sem,t4,t10,t11,t12,t107,VD,t109,hld,hx,au hb,hlE,hfk,hAk,aG]
      refine aC.st (Fr σ') (by have hFr:=Fr.refl hF.wf;exact fr) λhF3=>?_
      refine(an4 hF3.wf (al i) (hAa.keep (λb hq=>hF3.old b hq.2.1) λ_ h=>h) (hgA.len jb) (cl i).length hfl jb rfl rfl rfl hfk _ _ _ l0 l1 l2).mono ?_
      rintro _ σ4 ⟨⟨rv,a,rfl,hr,ha,hg⟩,hf4⟩
      have jr:=hF3.trans hf4
      have atr:=hF.trans jr
      have hb4:=jr.get hF.wf hb
      have azz:=jr.get hF.wf heE
      have pY:=jr.le
      have azA:=jr.ld hF.wf hlE
      have azB:=hf4.get hF3.wf (aA _ _ _)
      have hw:=an8 (m:=m) (cl:=cl) (bs:=bs) (A:=A) (rv:=rv) hm0
      simp(disch:=try exact jz) only[go_sem,t4,t10,t11,t12,t107,VD,t109,au hb4,hb4,azA,azB,hfk,hAk,aI azz,hw]
      refine⟨np-(k+1),jb,k+1,aN A i rv,aN al i (al i++[a]),rfl,jb,rfl,jr.get hF.wf q0,hI.agr jr rfl hm0 jb (hr.keep (λ_ _=>rfl) λb9 h9=>h9.imp id λh9=>⟨by have h8:σ'.aj+1<=b9:=h9.1;omega,h9.2⟩) ha hg ?_ ?_ ?_ jp ?_⟩
      .rw[ak _ _ _ _ jb];exact hb4
      .rw[aA]
      .intro b9 h9 h8 h7
       rw[ak _ _ _ _ h7]
      .exact fr
     .simp(disch:=try exact jz) only[go_sem,t4,t10,t11,t12,t107,VD,t109]
      exact⟨np-(k+1),jb,k+1,A,al,rfl,jb,rfl,q0,hI.step (by have hFr:=Fr.refl hF.wf;exact fr)⟩
    .simp(disch:=try exact jz) only[go_sem,am]
     exact⟨A,al,t4,t10,t11,q0,hI⟩
   .rintro _ tm σ' ⟨rfl,A,al,t4,t10,t11,q0,hI⟩
    have hlenD:=hdv.len
    simp(disch:=try exact jz) only[go_sem,t4,hlenD]
    refine bM.mono (Q:=λe tm σ'=>e=.exit 6/\∃yT dl,Tr.ah tm 10=.c (.ptr σ.aj 0)/\Tr.ah tm 11=.c (.ptr (σ.aj+1) 0)/\σ'.h σ.aj=some ⟨[.aP,.aP],none⟩/\GI σ σ' (σ.aj+1) n eb yT m cl bs A al dl)
     (aF (λq tm σ'=>∃k yT dl,q=nd-k/\k<=nd/\Tr.ah tm 10=.c (.ptr σ.aj 0)/\Tr.ah tm 11=.c (.ptr (σ.aj+1) 0)/\Tr.ah tm 139=.c dv/\Tr.ah tm 140=jN nd/\Tr.ah tm 141=jN k/\σ'.h σ.aj=some ⟨[.aP,.aP],none⟩/\GI σ σ' (σ.aj+1) n eb yT m cl bs A al dl) nd ?_ ?_) ?_
    .refine⟨0,.aP,[],jb,jb,?_⟩
     simp(disch:=try exact jz) only[go_sem,t4,t10,t11,am]
     exact⟨q0,hI⟩
    .rintro q tm σ' ⟨k,yT,dl,rfl,hk,t10,t11,t139,ajp,t141,q0,hI⟩
     have hF:=hI.fr
     have hle:=hF.le
     have hnx:=hI.nx
     have hb:=hI.b
     have hDD:=hI.g.d
     have hDl:=hDD.choose_spec.1.len
     have hDk:=hDD.kn
     have hGG:=hI.g.grp .opn
     have hd3:=hI.d.1
     simp(disch:=try exact jz) only[go_sem,t10,t11,t139,ajp,t141,aG]
     refine aH (λhlt=>?_) (λhlt=>?_)
     .obtain⟨b,o,c,rfl,hld⟩:=hdv.pos jb
      have hld:=hF.ld hW (hld k hlt)
      have l0:=hD k 0 hlt
      have l1:=hD k 1 hlt
      have l2:=hD k 2 hlt
      simp(disch:=try exact jz) only[go_sem,t10,t11,t139,ajp,t141,hld,au hb,hDk,hDl,aG]
      refine aH (λh2=>?_) (λh2=>?_)
      .simp(disch:=try exact jz) only[go_sem,t10,t11,t139,ajp,t141,hld,au hb,hDk,hDl,aG]
       refine aC.st (Fr σ') (by have hFr:=Fr.refl hF.wf;exact fr) λhF3=>?_
       have hEl:(gu n m cl al).length=n:=jD ..
       refine(axa hF3.wf (gu n m cl al) dl (p:=Qt (σ.aj+1+1) σ'.aj eb n cl bs) (ev:=.sl eb 0 n .opn) (hGG.e.keep (q:=λ_=>True) (λb hq=>hF3.old b hq.2) λ_ _=>trivial) (hDD.keep (λb hq=>hF3.old b hq.2.1) λ_ h=>h) ⟨jb,λj hj=>by have:=(hI.d.2 j hj).1;omega⟩ jb (λj hj=>?_) _ _ _ l0 l1 l2).mono ?_
       .have hj':j<n:=jb
        rw[je m cl al hj']
        have:=(hI.c j hj').1
        show(cl j).length<=1000
        omega
       .rintro _ σ4 ⟨⟨rv,d,rfl,hr,hd1,hd2,hd3⟩,hf4⟩
        have jr:=hF3.trans hf4
        have atr:=hF.trans jr
        have hb4:=jr.get hF.wf hb
        have pY:=jr.le
        simp(disch:=try exact jz) only[go_sem,t10,t11,t139,ajp,t141,aI hb4]
        refine⟨nd-(k+1),jb,k+1,rv,dl++[d],rfl,jb,rfl,jr.get hF.wf q0,hI.dbt jr jb (hr.keep (λ_ _=>rfl) λb9 h9=>h9.imp id λh9=>⟨by have h8:σ'.aj+1<=b9:=h9.1;omega,h9.2⟩) ⟨hd1,_,hd2⟩ hd3 ?_ ?_ jp ?_⟩
        .rw[aA]
        .intro b9 h9 h8
         rw[ak _ _ _ _ jb]
        .exact fr
      .simp(disch:=try exact jz) only[go_sem,t10,t11,t139,ajp,t141]
       exact⟨nd-(k+1),jb,k+1,yT,dl,rfl,jb,rfl,q0,hI.step (by have hFr:=Fr.refl hF.wf;exact fr)⟩
     .simp(disch:=try exact jz) only[go_sem,am]
      exact⟨yT,dl,t10,t11,q0,hI⟩
    .rintro _ tm σ' ⟨rfl,yT,dl,t10,t11,q0,hI⟩
     have hF:=hI.fr
     have hb:=hI.b
     have hnx:=hI.nx
     have hDk:=hI.g.d.kn
     simp(disch:=try exact jz) only[go_sem,t10,t11,au hb,hDk,aI q0]
     refine⟨eb,yT,m,cl,bs,A,al,dl,rfl,⟨?_,?_,hI.m,hI.c,hI.a,hI.d,hI.nx,hI.lo,?_,hI.dg⟩⟩
     .rw[ak _ _ _ _ jb];exact hb
     .exact hI.g.mono (λb9 h9 h8=>ak _ _ _ _ jb) jp
     .exact fr
def shB(c:List C5)(L:List (List Rat))(i:Nat):Nat->Bool
 |0=>false
 |k+1=>shB c L i k||(decide ((ix c k).r<Int.ofNat 6)&&decide (Gh L i k<(ix c k).a.q))
def shO(g:fC)(L:List (List Rat))(i:Nat):Bool:=shB (ix g.e i).c L i (ix g.e i).c.length
def LK(g:fC)(L:List (List Rat))(i:Nat)(b:Bool):Nat->B:=λj=>.bool (if j<i then shO g L j else if j=i then b else false)
def afN(g:fC)(L:List (List Rat))(i:Nat):LK g L i (shO g L i)=LK g L (i+1) false:=by
 funext j;unfold LK;congr 1;by_cases h1:j<i
 .rw[ae h1,ae jb]
 .by_cases h2:j=i
  .subst h2;rw[ab jb,ae rfl,ae jb]
  .rw[ab h1,ab h2,ab jb];split<;>rfl
def ajq(g:fC)(L:List (List Rat))(i:Nat)(b c:Bool):aN (LK g L i b) i (.bool c)=LK g L i c:=by
 funext j;unfold aN LK;by_cases h:j=i
 .subst h;rw[ae rfl,ab jb,ae rfl]
 .rw[ab h,ab h,ab h]
def ajr(g:fC)(L:List (List Rat))(n:Nat):ones n (LK g L n false)=ones n λj=>.bool (shO g L j):=cO λi hi=>by unfold LK;rw[ae hi]
def afO(g:fC)(L:List (List Rat))(n:Nat):(ones n λ_=>.bool false)=ones n (LK g L 0 false):=cO λi hi=>by unfold LK;rw[ab jb];split<;>rfl
def SzG(g:fC):Prop:=∀i,i<g.e.length->∀k,k<(ix g.e i).c.length->(ix (ix g.e i).c k).a.s.size+(ix (ix g.e i).c k).a.d.size<=130000000/\Sz (ix (ix g.e i).c k).a.q
def aoc(p q:Rat):decide (pI p q<Int.ofNat 0)=decide (p<q):=ain p q
def R3.azC(r:R3):rq r.n r.s r.d=r.q:=rfl
section
variable {m gv n2 n3 n4 n5 n6 n7:B}
def adh{σ:St}(hW:WF σ){p p':Nat->Prop}{ev dv:B}(g:fC)(hg:qy p' σ.h ev dv g)(hn:g.e.length<=1000)(hcl:∀i,i<g.e.length->(ix g.e i).c.length<=1000)(hs:SzG g)(L:List (List Rat))(hT:LH p σ.h gv L)(hL:SzT L)
  (hm:m.kn=true) (k2:n2.kn=true) (k3:n3.kn=true) (k4:n4.kn=true) (k5:n5.kn=true) (k6:n6.kn=true) (k7:n7.kn=true):
  aC EN 76 [.agg [ev,dv],.agg [m,gv,n2,n3,n4,n5,n6,n7]] σ λr σ'=>(∃b,r=.c (.sl b 0 g.e.length (.ex g.e.length))/\σ'.h b=some ⟨ones g.e.length (λj=>.bool (shO g L j)),none⟩/\σ.aj<=b)/\Fr σ σ':=by
 refine aO (pU.o _ _) pU.h ?_
 unfold pU
 dsimp only
 have hek:=hg.e.kn
 have hdk:=hg.d.kn
 have hlenE:=hg.e.len
 have hgk:=hT.choose_spec.1.kn
 simp(disch:=try exact jz) only[go_sem,hek,hdk,hlenE,hgk,hm,k2,k3,k4,k5,k6,k7]
 refine aF (λq tm σ'=>∃i,q=g.e.length-i/\i<=g.e.length/\Tr.ah tm 3=.c (.ptr (σ.aj+1) 0)/\Tr.ah tm 5=.c (.sl (σ.aj+1+1) 0 g.e.length (.ex g.e.length))/\Tr.ah tm 15=.c ev/\Tr.ah tm 16=jN g.e.length/\Tr.ah tm 17=jN i
  /\σ'.h (σ.aj+1)=some ⟨[m,gv,n2,n3,n4,n5,n6,n7],none⟩/\σ'.h (σ.aj+1+1)=some ⟨ones g.e.length (LK g L i false),none⟩/\Fr σ σ'/\σ.aj+1+1+1<=σ'.aj) g.e.length ?_ ?_
 .refine⟨0,jb,jb,?_⟩
  simp(disch:=try exact jz) only[go_sem,am]
  refine⟨?_,?_,jb⟩
  .rw[afO g L]
  .exact fr
 .rintro q tm σ' ⟨i,rfl,hi,t3,t5,t15,t16,t17,q1,q2,hf,hnx⟩
  have hle:=hf.le
  simp(disch:=try exact jz) only[go_sem,t3,t5,t15,t16,t17,aG]
  refine aH (λhlt=>?_) (λhlt=>?_)
  .obtain⟨b,o,c,rfl,C,A,hld,uT,hC,hA⟩:=hg.e.at hlt
   have hld:=hf.ld hW hld
   have LM:=hC.kn
   have hAk:=hA.kn
   have I5:=hC.len
   have azv:=hcl i hlt
   have hs1:=hs i hlt
   have azD:shO g L i=shB (ix g.e i).c L i (ix g.e i).c.length:=rfl
   generalize ix g.e i=e at*
   simp(disch:=try exact jz) only[go_sem,t3,t5,t15,t16,t17,hld,LM,hAk,I5]
   refine aF (λq tm σ3=>∃k,q=e.c.length-k/\k<=e.c.length/\Tr.ah tm 3=.c (.ptr (σ.aj+1) 0)/\Tr.ah tm 5=.c (.sl (σ.aj+1+1) 0 g.e.length (.ex g.e.length))/\Tr.ah tm 6=jN i/\Tr.ah tm 15=.c (.sl b o g.e.length c)/\Tr.ah tm 16=jN g.e.length/\Tr.ah tm 17=jN i
    /\Tr.ah tm 23=.c C/\Tr.ah tm 24=jN e.c.length/\Tr.ah tm 25=jN k
    /\σ3.h (σ.aj+1)=some ⟨[m,gv,n2,n3,n4,n5,n6,n7],none⟩/\σ3.h (σ.aj+1+1)=some ⟨ones g.e.length (LK g L i (shB e.c L i k)),none⟩/\Fr σ σ3/\σ.aj+1+1+1<=σ3.aj) e.c.length ?_ ?_
   .refine⟨0,jb,jb,?_⟩
    simp(disch:=try exact jz) only[go_sem,t3,t5,t15,t16,t17,am]
    exact⟨q1,q2,fr,jb⟩
   .rintro q tm3 σ3 ⟨k,rfl,hk,t3,t5,t6,t15,t16,t17,t23,t24,t25,q1,q2,hf3,hn3⟩
    have hle3:=hf3.le
    simp(disch:=try exact jz) only[go_sem,t3,t5,t6,t15,t16,t17,t23,t24,t25,aG]
    refine aH (λhlk=>?_) (λhlk=>?_)
    .obtain⟨b5,o5,c5,e5,-,bf⟩:=hC.pos jb
     have bf:=hf3.ld hW (bf k hlk)
     unfold Xb at bf
     rw[e5]at t23
     obtain⟨z1,z2⟩:=hs1 k hlk
     have hsh:shB e.c L i (k+1)=(shB e.c L i k||(decide ((ix e.c k).r<Int.ofNat 6)&&decide (Gh L i k<(ix e.c k).a.q))):=rfl
     simp(disch:=try exact jz) only[go_sem,t3,t5,t6,t15,t16,t17,t23,t24,t25,bf]
     refine IK (λhr=>?_) (λhr=>?_)
     .simp(disch:=try exact jz) only[go_sem,t3,t5,t6,t15,t16,t17,t23,t24,t25,au q1,hgk,hm,k2,k3,k4,k5,k6,k7,hr]
      refine aC.st (Fr σ3) (by have hF:=Fr.refl hf3.wf;exact fr) λhF3=>?_
      have Pm:=hf3.trans hF3
      refine(atg hF3.wf L (hT.fr hW Pm) hm k2 k3 k4 k5 k6 k7 i k).mono ?_
      rintro _ σ4 ⟨rfl,hf4⟩
      have hz:=(hL.paid i k).two
      unfold rV
      have jr:=hF3.trans hf4
      have atr:=hf3.trans jr
      have pY:=jr.le
      have q1':=jr.get hf3.wf q1
      have q2':=jr.get hf3.wf q2
      have hst:σ4.h σ3.aj=some ⟨[.int .i64 (ix e.c k).h,.int .i64 (ix e.c k).r,.bool (ix e.c k).a.n,.str (ix e.c k).a.s,.str (ix e.c k).a.d],none⟩:=hf4.get hF3.wf (aA _ _ _)
      simp(disch:=try exact jz) only[go_sem,t3,t5,t6,t15,t16,t17,t23,t24,t25,R3.azC,aoc,au hst,hgk,hm,k2,k3,k4,k5,k6,k7,au q1']
      refine aH (λhc=>?_) (λhc=>?_)
      .rw[be hr,be hc,cU,Bool.or_true]at hsh
       have ho:=ajq g L i (shB e.c L i k) true
       simp(disch:=try exact jz) only[go_sem,t3,t5,t6,t15,t16,t17,t23,t24,t25,aI q2',ho]
       refine⟨e.c.length-(k+1),jb,k+1,rfl,jb,by rw[e5],rfl,q1',by rw[hsh],fr,jb⟩
      .rw[az hc,Bool.and_false,Bool.or_false]at hsh
       simp(disch:=try exact jz) only[go_sem,t3,t5,t6,t15,t16,t17,t23,t24,t25]
       refine⟨e.c.length-(k+1),jb,k+1,rfl,jb,by rw[e5],rfl,q1',by rw[hsh];exact q2',atr,jb⟩
     .rw[az hr,Bool.false_and,Bool.or_false]at hsh
      simp(disch:=try exact jz) only[go_sem,t3,t5,t6,t15,t16,t17,t23,t24,t25,hr]
      refine⟨e.c.length-(k+1),jb,k+1,rfl,jb,by rw[e5],rfl,q1,by rw[hsh];exact q2,fr,jb⟩
    .have:k=e.c.length:=jb
     subst this
     rw[<-azD,afN]at q2
     simp(disch:=try exact jz) only[go_sem,t3,t5,t6,t15,t16,t17,t23,t24,t25]
     exact⟨g.e.length-(i+1),jb,i+1,rfl,jb,rfl,q1,q2,hf3,hn3⟩
  .have:i=g.e.length:=jb
   subst this
   rw[ajr]at q2
   simp(disch:=try exact jz) only[go_sem,t5]
   exact⟨⟨_,rfl,q2,jb⟩,hf⟩
end
end Go.Proofs.Xe
