import Derived.Test.YtodnohicahohdaaGreatDoorYh22
set_option linter.all false
set_option maxRecDepth 100000
set_option maxHeartbeats 8000000
namespace Go.Proofs.Xe
open Go.RowKit Go.Proofs.Ins
def Ia(n i:Nat)(x:C5):Prop:=(x.h=-1\/∃j:Nat,j<n/\j≠i/\x.h=(j:Int))/\(∃r:Nat,r<=7/\x.r=(r:Int))/\∃v,x.a=sO (amt v)
def Ib(nc:Nat)(al:List fD):Prop:=al.length<=2/\∀j,j<al.length->(ix al j).length=3/\∀t,t<3->H9 nc (al.take j) (ix (ix al j) t)/\(ix (ix al j) t).length<=nc+1
section
variable {h h' : Tr Bk} {dv:B} {n eb:Nat} {m:Nat→Rat} {cl:Nat→List C5} {bs:Nat→Nat} {A:Nat→B} {al:Nat→List fD} {dl:List oM} {lo hi:Nat}
def avJ{i nx:Nat}(hi:i<n)(x:C5):yc (bf n (uw m cl bs A)) (i*5+3) [.sl nx 0 ((cl i).length+1) .opn]=some (bf n (uw m (aO cl i (cl i++[x])) (aO bs i nx) A)):=by
 rw[yP (e:=5) (λ_=>rfl) hi kc];show some _=some _;congr 1;refine bC λj hj=>?_;unfold je;by_cases e:j=i
 .subst e;rw[ab rfl];unfold uw;rw[aN,aN,jm (l:=cl j++[x]) kc,az];rfl
 .rw[ae e];unfold uw;rw[aS _ _ _ _ e,aS _ _ _ _ e]
def aqi{i:Nat}{rv:B}(hi:i<n):yc (bf n (uw m cl bs A)) (i*5+4) [rv]=some (bf n (uw m cl bs (aO A i rv))):=by
 rw[yP (e:=5) (λ_=>rfl) hi kc];show some _=some _;congr 1;refine bC λj hj=>?_;unfold je;by_cases e:j=i
 .subst e;rw[ab rfl];unfold uw;rw[aN];rfl
 .rw[ae e];unfold uw;rw[aS _ _ _ _ e]
def mX.push(ho:mX h dv n eb m cl bs A al dl lo hi){i nx:Nat}(hi':i<n)(x:C5)(hnx:hi<=nx){hi2:Nat}(h2:nx<hi2)(he:h' eb=some ⟨bf n (uw m (aO cl i (cl i++[x])) (aO bs i nx) A),some (5,73)⟩)
  (hx:h' nx=some ⟨bf (cl i).length (clC (cl i))++Ym x,some (5,77)⟩) (hb:∀b,lo<=b->b<hi->b≠eb->(0<(cl i).length->b≠bs i)->h' b=h b):mX h' dv n eb m (aO cl i (cl i++[x])) (aO bs i nx) A al dl lo hi2:=by
 have hq:∀b,Qt lo hi eb n cl bs b->Qt lo hi2 eb n (aO cl i (cl i++[x])) (aO bs i nx) b:=λb q=>⟨q.1,by have:=q.2.1;omega,q.2.2.1,λj hj hp=>by
  by_cases e:j=i
  .subst e;rw[aN];have:=q.2.1;omega
  .rw[aS _ _ _ _ e]at hp⊢;exact q.2.2.2 j hj hp⟩
 have hk:∀b,Qt lo hi eb n cl bs b->h' b=h b:=λb q=>hb b q.1 q.2.1 q.2.2.1 λhp=>q.2.2.2 i hi' hp
 have hlo:=ho.elo
 have hhi:=ho.ehi
 refine⟨he,ho.elo,jb,λj hj hp=>?_,λa b ha hb' pa pb e=>?_,λj hj=>(ho.a j hj).keep hk hq,ho.d.keep hk hq⟩
 .by_cases e:j=i
  .subst e
   rw[aN,aN,az,bz]
   refine⟨?_,jb,h2,jb⟩
   rw[hx,jA]
   congr 2
   refine bC λk hk=>?_
   unfold je clC
   split
   .next e=>rw[e,gU]
   .rw[gQ _ _ jb]
  .rw[aS _ _ _ _ e]at hp⊢
   rw[aS _ _ _ _ e]
   obtain⟨k1,k2,k3,k4⟩:=ho.c j hj hp
   exact⟨by rw[hb _ k2 k3 k4 λhp2 e2=>e (ho.inj j i hj hi' hp hp2 e2)];exact k1,k2,jb,k4⟩
 .by_cases e1:a=i
  .by_cases e2:b=i
   .rw[e1,e2]
   .rw[e1,aN,aS _ _ _ _ e2]at e
    rw[aS _ _ _ _ e2]at pb
    have:=(ho.c b hb' pb).2.2.1
    omega
  .by_cases e2:b=i
   .rw[e2,aN,aS _ _ _ _ e1]at e
    rw[aS _ _ _ _ e1]at pa
    have:=(ho.c a ha pa).2.2.1
    omega
   .rw[aS _ _ _ _ e1]at pa
    rw[aS _ _ _ _ e2]at pb
    rw[aS _ _ _ _ e1,aS _ _ _ _ e2]at e
    exact ho.inj a b ha hb' pa pb e
def mX.aB1(ho:mX h dv n eb m cl bs A al dl lo hi){i:Nat}(hi':i<n){rv:B}{l:List fD}{hi2:Nat}(h2:hi<=hi2)(he:h' eb=some ⟨bf n (uw m cl bs (aO A i rv)),some (5,73)⟩)
  (hb:∀b,lo<=b->b<hi->b≠eb->h' b=h b) (hr:iO (Qt lo hi2 eb n cl bs) h' rv l):mX h' dv n eb m cl bs (aO A i rv) (aO al i l) dl lo hi2:=by
 have hq:∀b,Qt lo hi eb n cl bs b->Qt lo hi2 eb n cl bs b:=λb q=>⟨q.1,by have:=q.2.1;omega,q.2.2⟩
 have hk:∀b,Qt lo hi eb n cl bs b->h' b=h b:=λb q=>hb b q.1 q.2.1 q.2.2.1
 refine⟨he,ho.elo,by have:=ho.ehi;omega,λj hj hp=>?_,ho.inj,λj hj=>?_,ho.d.keep hk hq⟩
 .obtain⟨k1,k2,k3,k4⟩:=ho.c j hj hp
  exact⟨by rw[hb _ k2 k3 k4];exact k1,k2,jb,k4⟩
 .by_cases e:j=i
  .subst e;rw[aN,aN];exact hr
  .rw[aS _ _ _ _ e,aS _ _ _ _ e];exact(ho.a j hj).keep hk hq
def mX.aB2(ho:mX h dv n eb m cl bs A al dl lo hi){pI:B}{l:List oM}{hi2:Nat}(h2:hi<=hi2)(hb:∀b,lo<=b->b<hi->h' b=h b)(hr:jF (Qt lo hi2 eb n cl bs) h' pI l):mX h' pI n eb m cl bs A al l lo hi2:=by have:=ho.mono hb h2;exact⟨this.e,this.elo,this.ehi,this.c,this.inj,this.a,hr⟩
def iO.none(p:Nat->Prop)(h:Tr Bk):iO p h .aQ []:=⟨λ_=>.aQ,.inl ⟨rfl,rfl⟩,λi hi=>by simp at hi⟩
def jF.none(p:Nat->Prop)(h:Tr Bk):jF p h .aQ []:=⟨λ_=>.aQ,.inl ⟨rfl,rfl⟩,λi hi=>by simp at hi⟩
def mX.start(he:h eb=some ⟨bf n (uw m (λ_=>[]) (λ_=>0) (λ_=>.aQ)),some (5,73)⟩)(h1:lo<=eb)(h2:eb<hi):mX h .aQ n eb m (λ_=>[]) (λ_=>0) (λ_=>.aQ) (λ_=>[]) [] lo hi:=
 ⟨he,h1,h2,λi _ hp=>by simp at hp,λi j _ _ hp=>by simp at hp,λ_ _=>iO.none _ _,jF.none _ _⟩
def aqj(l:List C5):(bf l.length (clC l)).take (l.length*5)=bf l.length (clC l):=jC λ_=>rfl
def avK(l:List C5):l.length*5<=(bf l.length (clC l)).length:=by rw[lS (e:=5) λ_=>rfl];exact jp
def Ia.snoc{i:Nat}{l:List C5}{x:C5}(hl:∀k,k<l.length->Ia n i (ix l k))(hx:Ia n i x):∀k,k<(l++[x]).length->Ia n i (ix (l++[x]) k):=λk hk=>by
 rw[az,bz]at hk;by_cases e:k=l.length
 .rw[e,gU];exact hx
 .rw[gQ _ _ jb];exact hl k jb
end
structure GI(J J':St)(t11 n eb:Nat)(dv:B)(mm:Nat->Rat)(cl:Nat->List C5)(bs:Nat->Nat)(A:Nat->B)(al:Nat->List fD)(dl:List oM):Prop where
 b:J'.h t11=some ⟨[.sl eb 0 n .opn,dv],none⟩
 g:mX J'.h dv n eb mm cl bs A al dl (t11+1) J'.aj
 m:∀i,i<n->∃v,mm i=amt v
 c:∀i,i<n->(cl i).length<=6/\∀k,k<(cl i).length->Ia n i (ix (cl i) k)
 a:∀i,i<n->Ib (cl i).length (al i)
 d:dl.length<=3/\∀j,j<dl.length->(ix dl j).l.length<=4/\∃v,(ix dl j).w=sO (amt v)
 nx:t11+1<=J'.aj
 lo:J.aj<=t11
 fr:Fr J J'
 dg:∀j,j<dl.length->LGf (iC n mm cl al) (dl.take j) (ix dl j).l
def GI.step{J J' σ3:St}{t11 n eb:Nat}{dv:B}{m:Nat->Rat}{cl:Nat->List C5}{bs:Nat->Nat}{A:Nat->B}{al:Nat->List fD}{dl:List oM}(hI:GI J J' t11 n eb dv m cl bs A al dl)(hf:Fr J' σ3):GI J σ3 t11 n eb dv m cl bs A al dl:=by have hn:=hI.nx;have hle:=hf.le;exact⟨by rw[hf.old _ jb];exact hI.b,hI.g.mono (λb _ hb=>hf.old b hb) hle,hI.m,hI.c,hI.a,hI.d,jb,hI.lo,hI.fr.trans hf,hI.dg⟩
def GI.push{J J':St}{t11 n eb:Nat}{dv:B}{m:Nat->Rat}{cl:Nat->List C5}{bs:Nat->Nat}(hI:GI J J' t11 n eb dv m cl bs (λ_=>.aQ) (λ_=>[]) []){i nx n':Nat}{x:C5}{h':Tr Bk}(hi:i<n)(hl:(cl i).length<=5)(hx:Ia n i x)(hb:h' t11=some ⟨[.sl eb 0 n .opn,dv],none⟩)
  (he:h' eb=some ⟨bf n (uw m (aO cl i (cl i++[x])) (aO bs i nx) (λ_=>.aQ)),some (5,73)⟩) (hc:h' nx=some ⟨bf (cl i).length (clC (cl i))++Ym x,some (5,77)⟩)
  (ho:∀b,t11+1<=b->b<J'.aj->b≠eb->(0<(cl i).length->b≠bs i)->h' b=J'.h b) (hn:J'.aj<=nx) (hn':nx<n') (hf:Fr J ⟨h',n'⟩):GI J ⟨h',n'⟩ t11 n eb dv m (aO cl i (cl i++[x])) (aO bs i nx) (λ_=>.aQ) (λ_=>[]) []:=by
 have hn0:=hI.nx
 refine⟨hb,hI.g.push hi x hn hn' he hc ho,hI.m,λj hj=>?_,λj hj=>⟨aR _,λk hk=>by simp at hk⟩,hI.d,by show _<=n';omega,hI.lo,hf,λj hj=>by simp at hj⟩
 by_cases e:j=i
 .subst e
  rw[aN,az,bz]
  refine⟨jb,λk hk=>?_⟩
  exact Ia.snoc (hI.c j hj).2 hx k (by rw[az,bz];exact hk)
 .rw[aS _ _ _ _ e];exact hI.c j hj
def Ib.len{nc:Nat}{al:List fD}(h:Ib nc al)(hn:nc<=10):avD al:=⟨by have:=h.1;omega,λj hj=>by obtain⟨h1,h2⟩:=h.2 j hj;exact⟨jb,λt ht=>by have:=(h2 t jb).2;omega⟩⟩
def Ib.snoc{nc:Nat}{al:List fD}{a:fD}(h:Ib nc al)(h1:al.length<=1)(ha:a.length=3)(hg:∀t,t<3->H9 nc al (ix a t)/\(ix a t).length<=nc+1):Ib nc (al++[a]):=by
 refine⟨by simp;omega,λj hj=>?_⟩;rw[az,bz]at hj;by_cases e:j=al.length
 .subst e;rw[gU,List.take_left']
  .exact⟨ha,hg⟩
  .rfl
 .rw[gQ _ _ jb,gP jb];exact h.2 j jb
def GI.agr{J J' σ3:St}{t11 n eb:Nat}{dv:B}{m:Nat->Rat}{cl:Nat->List C5}{bs:Nat->Nat}{A:Nat->B}{al:Nat->List fD}{dl:List oM}(hI:GI J J' t11 n eb dv m cl bs A al dl)(hf3:Fr J' σ3)(h0:dl=[]){i n':Nat}{rv:B}{a:fD}{h':Tr Bk}(hi:i<n)(h1:(al i).length<=1)
  (hr:iO (λb=>Qt (t11+1) J'.aj eb n cl bs b\/J'.aj<=b/\b<σ3.aj) σ3.h rv (al i++[a])) (ha:a.length=3) (hg:∀t,t<3->H9 (cl i).length (al i) (ix a t)/\(ix a t).length<=(cl i).length+1)
  (hb:h' t11=some ⟨[.sl eb 0 n .opn,dv],none⟩) (he:h' eb=some ⟨bf n (uw m cl bs (aO A i rv)),some (5,73)⟩) (ho:∀b,t11+1<=b->b<σ3.aj->b≠eb->h' b=σ3.h b) (hn:σ3.aj<=n') (hf:Fr J ⟨h',n'⟩):GI J ⟨h',n'⟩ t11 n eb dv m cl bs (aO A i rv) (aO al i (al i++[a])) dl:=by
 have hn0:=hI.nx
 have hle:=hf3.le
 have avL:=hI.g.ehi
 refine⟨hb,(hI.g.mono (λb _ hb=>hf3.old b hb) hle).aB1 hi hn he (λb b1 b2 b3=>ho b b1 b2 b3) (hr.keep (λb hq=>?_) λb hq=>?_),hI.m,hI.c,λj hj=>?_,hI.d,by show _<=n';omega,hI.lo,hf,λj hj=>by rw[h0]at hj;simp at hj⟩
 .rcases hq with hq|hq
  .exact ho b hq.1 (by have:=hq.2.1;omega) hq.2.2.1
  .exact ho b jb hq.2 jb
 .rcases hq with hq|hq
  .exact⟨hq.1,show b<n' by have:=hq.2.1;omega,hq.2.2⟩
  .obtain⟨h8,h9⟩:=hq
   exact⟨jb,show b<n' by omega,jb,λj hj hp=>by have:=(hI.g.c j hj hp).2.2.1;omega⟩
 .by_cases e:j=i
  .subst e;rw[aN];exact(hI.a j hj).snoc h1 ha hg
  .rw[aS _ _ _ _ e];exact hI.a j hj
def GI.dbt{J J' σ3:St}{t11 n eb:Nat}{dv:B}{m:Nat->Rat}{cl:Nat->List C5}{bs:Nat->Nat}{A:Nat->B}{al:Nat->List fD}{dl:List oM}(hI:GI J J' t11 n eb dv m cl bs A al dl)(hf3:Fr J' σ3){n':Nat}{rv:B}{d:oM}{h':Tr Bk}(h1:dl.length<=2)
  (hr:jF (λb=>Qt (t11+1) J'.aj eb n cl bs b\/J'.aj<=b/\b<σ3.aj) σ3.h rv (dl++[d])) (hd:d.l.length<=4/\∃v,d.w=sO (amt v)) (hdg:LGf (iC n m cl al) dl d.l)
  (hb:h' t11=some ⟨[.sl eb 0 n .opn,rv],none⟩) (ho:∀b,t11+1<=b->b<σ3.aj->h' b=σ3.h b) (hn:σ3.aj<=n') (hf:Fr J ⟨h',n'⟩):GI J ⟨h',n'⟩ t11 n eb rv m cl bs A al (dl++[d]):=by
 have hn0:=hI.nx
 have hle:=hf3.le
 have avL:=hI.g.ehi
 refine⟨hb,(hI.g.mono (λb _ hb=>hf3.old b hb) hle).aB2 hn (λb b1 b2=>ho b b1 b2) (hr.keep (λb hq=>?_) λb hq=>?_),hI.m,hI.c,hI.a,⟨by simp;omega,λj hj=>?_⟩,by show _<=n';omega,hI.lo,hf,λj hj=>?_⟩
 .rcases hq with hq|hq
  .exact ho b hq.1 (by have:=hq.2.1;omega)
  .exact ho b jb hq.2
 .rcases hq with hq|hq
  .exact⟨hq.1,show b<n' by have:=hq.2.1;omega,hq.2.2⟩
  .obtain⟨h8,h9⟩:=hq
   exact⟨jb,show b<n' by omega,jb,λj hj hp=>by have:=(hI.g.c j hj hp).2.2.1;omega⟩
 .rw[az,bz]at hj
  by_cases e:j=dl.length
  .rw[e,gU];exact hd
  .rw[gQ _ _ jb];exact hI.d.2 j jb
 .rw[az,bz]at hj
  by_cases e:j=dl.length
  .rw[e,gU,List.take_left' rfl];exact hdg
  .rw[gQ _ _ jb,gP jb];exact hI.dg j jb
def Qz:amt 0=0:=by rw[aeg jj];show((0:Int):Rat)/((1:Int):Rat)=0;grind
structure G0(J J':St)(t11 i:Nat)(ev:B)(m:Nat->Rat):Prop where
 b:J'.h t11=some ⟨[ev,.aQ],none⟩
 e:(i=0/\ev=.aQ)\/∃eb,ev=.sl eb 0 i .opn/\0<i/\J'.h eb=some ⟨bf i (uw m (λ_=>[]) (λ_=>0) (λ_=>.aQ)),some (5,73)⟩/\t11+1<=eb/\eb<J'.aj
 m:∀j,j<i->∃v,m j=amt v
 nx:t11+1<=J'.aj
 fr:Fr J J'
def ak2(i:Nat)(m:Nat->Rat)(cl:Nat->List C5)(bs:Nat->Nat)(A:Nat->B):(bf i (uw m cl bs A)).take (i*5)=bf i (uw m cl bs A):=jC λ_=>rfl
def aqk(i:Nat)(m:Nat->Rat)(cl:Nat->List C5)(bs:Nat->Nat)(A:Nat->B):i*5<=(bf i (uw m cl bs A)).length:=by rw[lS (e:=5) λ_=>rfl];exact jp
def G0.push{J J':St}{t11 i:Nat}{ev:B}{m:Nat->Rat}(hG:G0 J J' t11 i ev m){q:Rat}(hq:∃v,q=amt v){h':Tr Bk}{nx n':Nat}(hb:h' t11=some ⟨[.sl nx 0 (i+1) .opn,.aQ],none⟩)
  (hx:h' nx=some ⟨bf i (uw m (λ_=>[]) (λ_=>0) (λ_=>.aQ))++[.bool (rn q),.str (rs q),.str (rd q),.aQ,.aQ],some (5,73)⟩) (hn:J'.aj<=nx) (hn':nx<n') (hf:Fr J ⟨h',n'⟩):G0 J ⟨h',n'⟩ t11 (i+1) (.sl nx 0 (i+1) .opn) (aO m i q):=by
 have hn0:=hG.nx
 refine⟨hb,.inr ⟨nx,rfl,jb,?_,jb,hn'⟩,λj hj=>?_,by show _<=n';omega,hf⟩
 .show h' nx=_
  rw[hx,jA]
  congr 2
  refine bC λj hj=>?_
  unfold je uw
  by_cases e:j=i
  .rw[ab e,e,aN];rfl
  .rw[ae e,aS _ _ _ _ e]
 .unfold aO
  split
  .exact hq
  .exact hG.m j jb
def W9{J:St}(hW:WF J){nm Fg nl np nd:Nat}(hnm:nm<=255){cv lv pv dv:B}(M:Nat->Nat)(L P D:Nat->Nat->Nat)(hcv:HL J.h 1 cv Fg λi=>[.int .u16 (.ofNat (M i))])(hM:∀i,i<Fg->M i<=65535)
  (hlv:HL J.h 4 lv nl λi=>[.int .u16 (.ofNat (L i 0)),.int .u16 (.ofNat (L i 1)),.int .u16 (.ofNat (L i 2)),.int .u16 (.ofNat (L i 3))]) (hL:∀i j,i<nl->L i j<=65535) (hnl:nl<=9223372036854775806)
  (hpv:HL J.h 3 pv np λi=>[.int .u16 (.ofNat (P i 0)),.int .u16 (.ofNat (P i 1)),.int .u16 (.ofNat (P i 2))]) (hP:∀i j,i<np->P i j<=65535) (hnp:np<=9223372036854775806)
  (hdv:HL J.h 3 dv nd λi=>[.int .u16 (.ofNat (D i 0)),.int .u16 (.ofNat (D i 1)),.int .u16 (.ofNat (D i 2))]) (hD:∀i j,i<nd->D i j<=65535) (hnd:nd<=9223372036854775806):
  aB EN 9 [.c (.int .u8 (.ofNat nm)),.c cv,.c lv,.c pv,.c dv] J λr J'=>∃eb pI m cl bs A al dl,r=.agg [.sl eb 0 (1+nm%4) .opn,pI]/\GI J J' (J.aj+1) (1+nm%4) eb pI m cl bs A al dl:=by
 refine aI (Il.o _ _) Il.h ?_
 unfold Il
 dsimp only
 refine WN ?_
 have hs1:1<=1+nm%4:=jb
 have hs4:1+nm%4<=4:=jb
 generalize 1+nm%4=n at*
 refine bI.mono (Q:=λe tm J'=>e=.exit 0/\∃ev m,r8 tm 2=.c lv/\r8 tm 3=.c pv/\r8 tm 4=.c dv/\r8 tm 10=.c (.ptr J.aj 0)/\r8 tm 11=.c (.ptr (J.aj+1) 0)/\r8 tm 12=jN n/\J'.h J.aj=some ⟨[.aQ,.aQ],none⟩/\G0 J J' (J.aj+1) n ev m)
  (aG (λq tm J'=>∃i ev m,q=n-i/\i<=n/\r8 tm 1=.c cv/\r8 tm 2=.c lv/\r8 tm 3=.c pv/\r8 tm 4=.c dv/\r8 tm 10=.c (.ptr J.aj 0)/\r8 tm 11=.c (.ptr (J.aj+1) 0)/\r8 tm 12=jN n/\r8 tm 13=jN i
   /\J'.h J.aj=some ⟨[.aQ,.aQ],none⟩/\G0 J J' (J.aj+1) i ev m) n ?_ ?_) ?_
 .refine⟨0,.aQ,λ_=>0,jb,jb,?_⟩
  refine WP ?_
  refine⟨?_,.inl ⟨rfl,rfl⟩,λj hj=>jb,?_,?_⟩
  .rw[aA]
  .show J.aj+1+1<=J.aj+1+1;omega
  .exact fr
 .rintro q tm J' ⟨i,ev,m,rfl,hi,t1,t2,t3,t4,t10,t11,t12,t13,q0,hG⟩
  have hF:=hG.fr
  have hle:=hF.le
  have hnx:=hG.nx
  have hb:=hG.b
  have hlen:=hcv.len
  simp(disch:=try exact jz)only[go_sem,t12,t13,aC]
  refine aH (λhlt=>?_) (λhlt=>?_)
  .simp(disch:=try exact jz)only[go_sem,t1,t13,hlen,aC]
   have hel:=aqk i m (λ_=>[]) (λ_=>0) (λ_=>.aQ)
   have het:=ak2 i m (λ_=>[]) (λ_=>0) (λ_=>.aQ)
   refine aH (λhc=>?_) (λhc=>?_)
   .obtain⟨b,o,c,rfl,hld⟩:=hcv.one jb
    have hld:=hF.ld hW (hld i hc)
    have hbl:=hF.wf.cZ hld
    have hMi:=hM i hc
    rcases hG.e with⟨rfl,rfl⟩|⟨eb,rfl,hi0,k1,k2,k3⟩
    .simp(disch:=try exact jz)only[go_sem,W4,hld,ay hb,hb]
     refine⟨n-(1),jb,1,_,aO m 0 (amt (M 0)),rfl,jb,rfl,q0,hG.push (nx:=J'.aj+1+1) ⟨_,rfl⟩ ?_ ?_ ?_ ?_ ?_⟩
     .rw[aA]
     .rw[au _ _ _ _ jb,aA]<;>rfl
     .omega
     .omega
     .exact fr
    .simp(disch:=try exact jz)only[go_sem,W4,hld,ay hb,hb,k1,het]
     refine⟨n-(i+1),jb,i+1,_,aO m i (amt (M i)),rfl,jb,rfl,q0,hG.push (nx:=J'.aj+1+1) ⟨_,rfl⟩ ?_ ?_ ?_ ?_ ?_⟩
     .rw[aA]
     .rw[au _ _ _ _ jb,aA]<;>rfl
     .omega
     .omega
     .exact fr
   .rcases hG.e with⟨rfl,rfl⟩|⟨eb,rfl,hi0,k1,k2,k3⟩
    .simp(disch:=try exact jz)only[go_sem,W4,ay hb,hb]
     refine⟨n-(1),jb,1,_,aO m 0 (0),rfl,jb,rfl,q0,hG.push (nx:=J'.aj+1+1) ⟨0,Qz.symm⟩ ?_ ?_ ?_ ?_ ?_⟩
     .rw[aA]
     .rw[au _ _ _ _ jb,aA]<;>rfl
     .omega
     .omega
     .exact fr
    .simp(disch:=try exact jz)only[go_sem,W4,ay hb,hb,k1,het]
     refine⟨n-(i+1),jb,i+1,_,aO m i (0),rfl,jb,rfl,q0,hG.push (nx:=J'.aj+1+1) ⟨0,Qz.symm⟩ ?_ ?_ ?_ ?_ ?_⟩
     .rw[aA]
     .rw[au _ _ _ _ jb,aA]<;>rfl
     .omega
     .omega
     .exact fr
  .have:i=n:=jb
   subst this
   simp(disch:=try exact jz)only[go_sem,am]
   exact⟨ev,m,t2,t3,t4,t10,t11,t12,q0,hG⟩
 .rintro _ tm J' ⟨rfl,ev,m,t2,t3,t4,t10,t11,t12,q0,hG⟩
  have hlenL:=hlv.len
  obtain⟨eb,rfl,hn0,k1,k2,k3⟩:=hG.e.resolve_left jb
  have hG1:GI J J' (J.aj+1) n eb .aQ m (λ_=>[]) (λ_=>0) (λ_=>.aQ) (λ_=>[]) []:=
   ⟨hG.b,mX.start k1 k2 k3,hG.m,λi hi=>⟨aR _,λk hk=>by simp at hk⟩,λi hi=>⟨aR _,λj hj=>by simp at hj⟩,⟨aR _,λj hj=>by simp at hj⟩,hG.nx,jb,hG.fr,λj hj=>by simp at hj⟩
  simp(disch:=try exact jz)only[go_sem,t2,hlenL]
  refine bI.mono (Q:=λe tm J'=>e=.exit 2/\∃cl bs,r8 tm 3=.c pv/\r8 tm 4=.c dv/\r8 tm 10=.c (.ptr J.aj 0)/\r8 tm 11=.c (.ptr (J.aj+1) 0)/\r8 tm 12=jN n/\J'.h J.aj=some ⟨[.aQ,.aQ],none⟩/\GI J J' (J.aj+1) n eb .aQ m cl bs (λ_=>.aQ) (λ_=>[]) [])
   (aG (λq tm J'=>∃k cl bs,q=nl-k/\k<=nl/\r8 tm 3=.c pv/\r8 tm 4=.c dv/\r8 tm 10=.c (.ptr J.aj 0)/\r8 tm 11=.c (.ptr (J.aj+1) 0)/\r8 tm 12=jN n/\r8 tm 51=.c lv/\r8 tm 52=jN nl/\r8 tm 53=jN k/\J'.h J.aj=some ⟨[.aQ,.aQ],none⟩/\GI J J' (J.aj+1) n eb .aQ m cl bs (λ_=>.aQ) (λ_=>[]) []) nl ?_ ?_) ?_
  .refine⟨0,λ_=>[],λ_=>0,jb,jb,?_⟩
   simp(disch:=try exact jz)only[go_sem,t3,t4,t10,t11,t12,am]
   exact⟨q0,hG1⟩
  .rintro q tm J' ⟨k,cl,bs,rfl,hk,t3,t4,t10,t11,t12,t51,t52,t53,q0,hI⟩
   have hF:=hI.fr
   have hle:=hF.le
   have hnx:=hI.nx
   have hb:=hI.b
   have aB3:=hI.g.elo
   have avL:=hI.g.ehi
   have heE:=hI.g.e
   simp(disch:=try exact jz)only[go_sem,t52,t53,aC]
   refine aH (λhlt=>?_) (λhlt=>?_)
   .obtain⟨b,o,c,rfl,hld⟩:=hlv.pos jb
    have hld:=hF.ld hW (hld k hlt)
    have l0:=hL k 0 hlt
    have l1:=hL k 1 hlt
    have l2:=hL k 2 hlt
    have l3:=hL k 3 hlt
    have hm0:L k 0%n<n:=de _ jb
    have ZL:=hI.g.ldC hm0
    have hc6:=(hI.c _ hm0).1
    generalize hx:L k 0%n=i at*
    have hfl:=Fb (cl i) (bs i)
    have hfk:=rE (cl i) (bs i)
    have hge:∀a b:Nat,decide (Int.ofNat a<=Int.ofNat b)=decide (a<=b):=λa b=>by simp
    simp(disch:=try exact jz)only[go_sem,t11,t12,t51,t53,hld,hx,ay hb,ZL,hfl,hge]
    refine aH (λh6=>?_) (λh6=>?_)
    .refine W0 ?_
     exact⟨nl-(k+1),jb,k+1,cl,bs,rfl,jb,rfl,q0,hI.step (by have hFr:=Fr.refl hF.wf;exact fr)⟩
    .have hct:=aqj (cl i)
     have hcn:=avK (cl i)
     have hn1:0<n+1:=jb
     have hgood:∀hv:Int,(hv=-1\/∃j:Nat,j<n/\j≠i/\hv=(j:Int))->Ia n i ⟨hv,.ofNat (L k 2%3),sO (amt (L k 3))⟩:=λhv h=>⟨h,⟨L k 2%3,jb,rfl⟩,_,rfl⟩
     have hwC:=λx=>avJ (m:=m) (cl:=cl) (bs:=bs) (A:=λ_=>.aQ) (nx:=J'.aj+1+1) hm0 x
     simp(disch:=try exact jz)only[go_sem,t12]
     refine Zg (λhq=>?_) (λhq=>?_)
     .have hw:=hwC ⟨-1,.ofNat (L k 2%3),sO (amt (L k 3))⟩
      by_cases hz:(cl i).length=0
      .have he:mQ (cl i) (bs i)=.aQ:=by unfold mQ;rw[ab hz]
       rw[hz]at hw
       simp(disch:=try exact jz)only[go_sem,W4,ay hb,ZL,he,heE,hw,hq]
       refine⟨nl-(k+1),jb,k+1,aO cl i (cl i++[⟨-1,.ofNat (L k 2%3),sO (amt (L k 3))⟩]),aO bs i (J'.aj+1+1),rfl,jb,rfl,q0,hI.push hm0 jb (hgood _ (.inl rfl)) ?_ ?_ ?_ ?_ ?_ ?_ ?_⟩
       .simp(disch:=omega) only[au,fE];exact hb
       .rw[aA]
       .rw[au _ _ _ _ jb,aA,hz];rfl
       .intro b9 h9 h8 h7 h6;simp(disch:=first|assumption|omega) only[au,fE]
       .omega
       .omega
       .exact fr
      .have he:=jm (l:=cl i) jb (bs i)
       obtain⟨c1,c2,c3,c4⟩:=hI.g.c i hm0 jb
       simp(disch:=try exact jz)only[go_sem,W4,ay hb,ZL,he,c1,hct,heE,hw,hq]
       refine⟨nl-(k+1),jb,k+1,aO cl i (cl i++[⟨-1,.ofNat (L k 2%3),sO (amt (L k 3))⟩]),aO bs i (J'.aj+1+1),rfl,jb,rfl,q0,hI.push hm0 jb (hgood _ (.inl rfl)) ?_ ?_ ?_ ?_ ?_ ?_ ?_⟩
       .simp(disch:=omega) only[au,fE];exact hb
       .rw[aA]
       .rw[au _ _ _ _ jb,aA];rfl
       .intro b9 h9 h8 h7 h6;have h6:=h6 jb;simp(disch:=first|assumption|omega) only[au,fE]
       .omega
       .omega
       .exact fr
     .simp(disch:=try exact jz)only[go_sem,t12,hq,hge]
      refine aH (λhq2=>?_) (λhq2=>?_)
      .have hw:=hwC ⟨-1,.ofNat (L k 2%3),sO (amt (L k 3))⟩
       by_cases hz:(cl i).length=0
       .have he:mQ (cl i) (bs i)=.aQ:=by unfold mQ;rw[ab hz]
        rw[hz]at hw
        simp(disch:=try exact jz)only[go_sem,W4,ay hb,ZL,he,heE,hw]
        refine⟨nl-(k+1),jb,k+1,aO cl i (cl i++[⟨-1,.ofNat (L k 2%3),sO (amt (L k 3))⟩]),aO bs i (J'.aj+1+1),rfl,jb,rfl,q0,hI.push hm0 jb (hgood _ (.inl rfl)) ?_ ?_ ?_ ?_ ?_ ?_ ?_⟩
        .simp(disch:=omega) only[au,fE];exact hb
        .rw[aA]
        .rw[au _ _ _ _ jb,aA,hz];rfl
        .intro b9 h9 h8 h7 h6;simp(disch:=first|assumption|omega) only[au,fE]
        .omega
        .omega
        .exact fr
       .have he:=jm (l:=cl i) jb (bs i)
        obtain⟨c1,c2,c3,c4⟩:=hI.g.c i hm0 jb
        simp(disch:=try exact jz)only[go_sem,W4,ay hb,ZL,he,c1,hct,heE,hw]
        refine⟨nl-(k+1),jb,k+1,aO cl i (cl i++[⟨-1,.ofNat (L k 2%3),sO (amt (L k 3))⟩]),aO bs i (J'.aj+1+1),rfl,jb,rfl,q0,hI.push hm0 jb (hgood _ (.inl rfl)) ?_ ?_ ?_ ?_ ?_ ?_ ?_⟩
        .simp(disch:=omega) only[au,fE];exact hb
        .rw[aA]
        .rw[au _ _ _ _ jb,aA];rfl
        .intro b9 h9 h8 h7 h6;have h6:=h6 jb;simp(disch:=first|assumption|omega) only[au,fE]
        .omega
        .omega
        .exact fr
      .have hw:=hwC ⟨.ofNat (L k 1%(n+1)),.ofNat (L k 2%3),sO (amt (L k 3))⟩
       by_cases hz:(cl i).length=0
       .have he:mQ (cl i) (bs i)=.aQ:=by unfold mQ;rw[ab hz]
        rw[hz]at hw
        simp(disch:=try exact jz)only[go_sem,W4,ay hb,ZL,he,heE,hw]
        refine⟨nl-(k+1),jb,k+1,aO cl i (cl i++[⟨.ofNat (L k 1%(n+1)),.ofNat (L k 2%3),sO (amt (L k 3))⟩]),aO bs i (J'.aj+1+1),rfl,jb,rfl,q0,hI.push hm0 jb (hgood _ (.inr ⟨_,jb,hq,rfl⟩)) ?_ ?_ ?_ ?_ ?_ ?_ ?_⟩
        .simp(disch:=omega) only[au,fE];exact hb
        .rw[aA]
        .rw[au _ _ _ _ jb,aA,hz];rfl
        .intro b9 h9 h8 h7 h6;simp(disch:=first|assumption|omega) only[au,fE]
        .omega
        .omega
        .exact fr
       .have he:=jm (l:=cl i) jb (bs i)
        obtain⟨c1,c2,c3,c4⟩:=hI.g.c i hm0 jb
        simp(disch:=try exact jz)only[go_sem,W4,ay hb,ZL,he,c1,hct,heE,hw]
        refine⟨nl-(k+1),jb,k+1,aO cl i (cl i++[⟨.ofNat (L k 1%(n+1)),.ofNat (L k 2%3),sO (amt (L k 3))⟩]),aO bs i (J'.aj+1+1),rfl,jb,rfl,q0,hI.push hm0 jb (hgood _ (.inr ⟨_,jb,hq,rfl⟩)) ?_ ?_ ?_ ?_ ?_ ?_ ?_⟩
        .simp(disch:=omega) only[au,fE];exact hb
        .rw[aA]
        .rw[au _ _ _ _ jb,aA];rfl
        .intro b9 h9 h8 h7 h6;have h6:=h6 jb;simp(disch:=first|assumption|omega) only[au,fE]
        .omega
        .omega
        .exact fr
   .have:k=nl:=jb
    simp(disch:=try exact jz)only[go_sem,am]
    exact⟨cl,bs,t3,t4,t10,t11,t12,q0,hI⟩
  .rintro _ tm J' ⟨rfl,cl,bs,t3,t4,t10,t11,t12,q0,hI⟩
   have JG:=hpv.len
   simp(disch:=try exact jz)only[go_sem,t3,JG]
   refine bI.mono (Q:=λe tm J'=>e=.exit 4/\∃A al,r8 tm 4=.c dv/\r8 tm 10=.c (.ptr J.aj 0)/\r8 tm 11=.c (.ptr (J.aj+1) 0)/\J'.h J.aj=some ⟨[.aQ,.aQ],none⟩/\GI J J' (J.aj+1) n eb .aQ m cl bs A al [])
    (aG (λq tm J'=>∃k A al,q=np-k/\k<=np/\r8 tm 4=.c dv/\r8 tm 10=.c (.ptr J.aj 0)/\r8 tm 11=.c (.ptr (J.aj+1) 0)/\r8 tm 12=jN n/\r8 tm 107=.c pv/\r8 tm 108=jN np/\r8 tm 109=jN k/\J'.h J.aj=some ⟨[.aQ,.aQ],none⟩/\GI J J' (J.aj+1) n eb .aQ m cl bs A al []) np ?_ ?_) ?_
   .refine⟨0,λ_=>.aQ,λ_=>[],jb,jb,?_⟩
    simp(disch:=try exact jz)only[go_sem,t4,t10,t11,t12,am]
    exact⟨q0,hI⟩
   .rintro q tm J' ⟨k,A,al,rfl,hk,t4,t10,t11,t12,t107,acO,t109,q0,hI⟩
    have hF:=hI.fr
    have hle:=hF.le
    have hnx:=hI.nx
    have hb:=hI.b
    have aB3:=hI.g.elo
    have avL:=hI.g.ehi
    have heE:=hI.g.e
    simp(disch:=try exact jz)only[go_sem,acO,t109,aC]
    refine aH (λhlt=>?_) (λhlt=>?_)
    .obtain⟨b,o,c,rfl,hld⟩:=hpv.pos jb
     have hld:=hF.ld hW (hld k hlt)
     have l0:=hP k 0 hlt
     have l1:=hP k 1 hlt
     have l2:=hP k 2 hlt
     have hm0:P k 0%n<n:=de _ jb
     have hlA:=hI.g.ldA hm0
     have hlE:=hI.g.ldE hm0
     rw[cx]at hlE
     unfold uw at hlE
     have hc6:=(hI.c _ hm0).1
     have hgA:=hI.a _ hm0
     have hAa:=hI.g.a _ hm0
     generalize hx:P k 0%n=i at*
     have hAl:=hAa.choose_spec.1.len
     have hAk:=hAa.kn
     have hfl:=Fb (cl i) (bs i)
     have hfk:=rE (cl i) (bs i)
     simp(disch:=try exact jz)only[go_sem,t11,t12,t107,t109,hld,hx,ay hb,hlA,hAl,aC]
     refine aH (λh2=>?_) (λh2=>?_)
     .simp(disch:=try exact jz)only[go_sem,t11,ay hb,hlE,hfk,hAk]
      refine aB.st (Fr J') (by have hFr:=Fr.refl hF.wf;exact fr) λhF3=>?_
      refine(aqe hF3.wf (al i) (hAa.keep (λb hq=>hF3.old b hq.2.1) λ_ h=>h) (hgA.len jb) (cl i).length hfl jb rfl rfl rfl hfk _ _ _ l0 l1 l2).mono ?_
      rintro _ σ4 ⟨⟨rv,a,rfl,hr,ha,hg⟩,hf4⟩
      have iK:=hF3.trans hf4
      have avM:=hF.trans iK
      have hb4:=iK.get hF.wf hb
      have aB4:=iK.get hF.wf heE
      have qM:=iK.le
      have aDD:=iK.ld hF.wf hlE
      have aDE:=hf4.get hF3.wf (aA _ _ _)
      have hw:=aqi (m:=m) (cl:=cl) (bs:=bs) (A:=A) (rv:=rv) hm0
      simp(disch:=try exact jz)only[go_sem,W4,acO,ay hb4,aJ aB4,hw]
      refine⟨np-(k+1),jb,k+1,aO A i rv,aO al i (al i++[a]),rfl,jb,rfl,iK.get hF.wf q0,hI.agr iK rfl hm0 jb (hr.keep (λ_ _=>rfl) λb9 h9=>h9.imp id λh9=>⟨by have h8:J'.aj+1<=b9:=h9.1;omega,h9.2⟩) ha hg ?_ ?_ ?_ jp ?_⟩
      .rw[au _ _ _ _ jb];exact hb4
      .rw[aA]
      .intro b9 h9 h8 h7
       rw[au _ _ _ _ h7]
      .exact fr
     .simp(disch:=try exact jz)only[go_sem,W4,acO]
      exact⟨np-(k+1),jb,k+1,A,al,rfl,jb,rfl,q0,hI.step (by have hFr:=Fr.refl hF.wf;exact fr)⟩
    .simp(disch:=try exact jz)only[go_sem,am]
     exact⟨A,al,t4,t10,t11,q0,hI⟩
   .rintro _ tm J' ⟨rfl,A,al,t4,t10,t11,q0,hI⟩
    have hlenD:=hdv.len
    simp(disch:=try exact jz)only[go_sem,t4,hlenD]
    refine bI.mono (Q:=λe tm J'=>e=.exit 6/\∃pI dl,r8 tm 10=.c (.ptr J.aj 0)/\r8 tm 11=.c (.ptr (J.aj+1) 0)/\J'.h J.aj=some ⟨[.aQ,.aQ],none⟩/\GI J J' (J.aj+1) n eb pI m cl bs A al dl)
     (aG (λq tm J'=>∃k pI dl,q=nd-k/\k<=nd/\r8 tm 10=.c (.ptr J.aj 0)/\r8 tm 11=.c (.ptr (J.aj+1) 0)/\r8 tm 139=.c dv/\r8 tm 140=jN nd/\r8 tm 141=jN k/\J'.h J.aj=some ⟨[.aQ,.aQ],none⟩/\GI J J' (J.aj+1) n eb pI m cl bs A al dl) nd ?_ ?_) ?_
    .refine⟨0,.aQ,[],jb,jb,?_⟩
     simp(disch:=try exact jz)only[go_sem,t10,t11,am]
     exact⟨q0,hI⟩
    .rintro q tm J' ⟨k,pI,dl,rfl,hk,t10,t11,t139,avN,t141,q0,hI⟩
     have hF:=hI.fr
     have hle:=hF.le
     have hnx:=hI.nx
     have hb:=hI.b
     have hDD:=hI.g.d
     have hDl:=hDD.choose_spec.1.len
     have hDk:=hDD.kn
     have hGG:=hI.g.grp .opn
     have hd3:=hI.d.1
     simp(disch:=try exact jz)only[go_sem,avN,t141,aC]
     refine aH (λhlt=>?_) (λhlt=>?_)
     .obtain⟨b,o,c,rfl,hld⟩:=hdv.pos jb
      have hld:=hF.ld hW (hld k hlt)
      have l0:=hD k 0 hlt
      have l1:=hD k 1 hlt
      have l2:=hD k 2 hlt
      simp(disch:=try exact jz)only[go_sem,t11,t139,t141,hld,ay hb,hDk,hDl,aC]
      refine aH (λh2=>?_) (λh2=>?_)
      .simp(disch:=try exact jz)only[go_sem,t11,ay hb,hDk]
       refine aB.st (Fr J') (by have hFr:=Fr.refl hF.wf;exact fr) λhF3=>?_
       have hEl:(iC n m cl al).length=n:=pG ..
       refine(azu hF3.wf (iC n m cl al) dl (p:=Qt (J.aj+1+1) J'.aj eb n cl bs) (ev:=.sl eb 0 n .opn) (hGG.e.keep (q:=λ_=>True) (λb hq=>hF3.old b hq.2) λ_ _=>trivial) (hDD.keep (λb hq=>hF3.old b hq.2.1) λ_ h=>h) ⟨jb,λj hj=>by have:=(hI.d.2 j hj).1;omega⟩ jb (λj hj=>?_) _ _ _ l0 l1 l2).mono ?_
       .have hj':j<n:=jb
        rw[oq m cl al hj']
        have:=(hI.c j hj').1
        show(cl j).length<=1000
        omega
       .rintro _ σ4 ⟨⟨rv,d,rfl,hr,hd1,hd2,hd3⟩,hf4⟩
        have iK:=hF3.trans hf4
        have avM:=hF.trans iK
        have hb4:=iK.get hF.wf hb
        have qM:=iK.le
        simp(disch:=try exact jz)only[go_sem,W4,avN,aJ hb4]
        refine⟨nd-(k+1),jb,k+1,rv,dl++[d],rfl,jb,rfl,iK.get hF.wf q0,hI.dbt iK jb (hr.keep (λ_ _=>rfl) λb9 h9=>h9.imp id λh9=>⟨by have h8:J'.aj+1<=b9:=h9.1;omega,h9.2⟩) ⟨hd1,_,hd2⟩ hd3 ?_ ?_ jp ?_⟩
        .rw[aA]
        .intro b9 h9 h8
         rw[au _ _ _ _ jb]
        .exact fr
      .simp(disch:=try exact jz)only[go_sem,W4,avN]
       exact⟨nd-(k+1),jb,k+1,pI,dl,rfl,jb,rfl,q0,hI.step (by have hFr:=Fr.refl hF.wf;exact fr)⟩
     .simp(disch:=try exact jz)only[go_sem,am]
      exact⟨pI,dl,t10,t11,q0,hI⟩
    .rintro _ tm J' ⟨rfl,pI,dl,t10,t11,q0,hI⟩
     have hF:=hI.fr
     have hb:=hI.b
     have hnx:=hI.nx
     have hDk:=hI.g.d.kn
     simp(disch:=try exact jz)only[go_sem,W4,ay hb,hDk,aJ q0]
     refine⟨eb,pI,m,cl,bs,A,al,dl,rfl,⟨?_,?_,hI.m,hI.c,hI.a,hI.d,hI.nx,hI.lo,?_,hI.dg⟩⟩
     .rw[au _ _ _ _ jb];exact hb
     .exact hI.g.mono (λb9 h9 h8=>au _ _ _ _ jb) jp
     .exact fr
def shB(c:List C5)(L:List (List Rat))(i:Nat):Nat->Bool
 |0=>false
 |k+1=>shB c L i k||(decide ((ix c k).r<Int.ofNat 6)&&decide (qw L i k<(ix c k).a.q))
def shO(g:dV)(L:List (List Rat))(i:Nat):Bool:=shB (ix g.e i).c L i (ix g.e i).c.length
def NH(g:dV)(L:List (List Rat))(i:Nat)(b:Bool):Nat->B:=λj=>.bool (if j<i then shO g L j else if j=i then b else false)
def ahr(g:dV)(L:List (List Rat))(i:Nat):NH g L i (shO g L i)=NH g L (i+1) false:=by
 funext j;unfold NH;congr 1;by_cases h1:j<i
 .rw[ab h1,ab jb]
 .by_cases h2:j=i
  .subst h2;rw[ae jb,ab rfl,ab jb]
  .rw[ae h1,ae h2,ae jb];split<;>rfl
def ak3(g:dV)(L:List (List Rat))(i:Nat)(b c:Bool):aO (NH g L i b) i (.bool c)=NH g L i c:=by
 funext j;unfold aO NH;by_cases h:j=i
 .subst h;rw[ab rfl,ae jb,ab rfl]
 .rw[ae h,ae h,ae h]
def ak4(g:dV)(L:List (List Rat))(n:Nat):ones n (NH g L n false)=ones n λj=>.bool (shO g L j):=dF λi hi=>by unfold NH;rw[ab hi]
def ahs(g:dV)(L:List (List Rat))(n:Nat):(ones n λ_=>.bool false)=ones n (NH g L 0 false):=dF λi hi=>by unfold NH;rw[ae jb];split<;>rfl
def SzG(g:dV):Prop:=∀i,i<g.e.length->∀k,k<(ix g.e i).c.length->(ix (ix g.e i).c k).a.s.size+(ix (ix g.e i).c k).a.d.size<=130000000/\Sz (ix (ix g.e i).c k).a.q
def aql(p q:Rat):decide (nC p q<Int.ofNat 0)=decide (p<q):=aj7 p q
def R3.aB5(r:R3):rq r.n r.s r.d=r.q:=rfl
section
variable {m gv n2 n3 n4 n5 n6 n7:B}
def aqm{J:St}(hW:WF J){p p':Nat->Prop}{ev dv:B}(g:dV)(hg:jY p' J.h ev dv g)(hn:g.e.length<=1000)(hcl:∀i,i<g.e.length->(ix g.e i).c.length<=1000)(hs:SzG g)(L:List (List Rat))(hT:JF p J.h gv L)(hL:SzT L)
  (hm:m.kn=true) (k2:n2.kn=true) (k3:n3.kn=true) (k4:n4.kn=true) (k5:n5.kn=true) (k6:n6.kn=true) (k7:n7.kn=true):
  aB EN 149 [.agg [ev,dv],.agg [m,gv,n2,n3,n4,n5,n6,n7]] J λr J'=>(∃b,r=.c (.sl b 0 g.e.length (.ex g.e.length))/\J'.h b=some ⟨ones g.e.length (λj=>.bool (shO g L j)),none⟩/\J.aj<=b)/\Fr J J':=by
 refine aI (qI.o _ _) qI.h ?_
 unfold qI
 dsimp only
 have hek:=hg.e.kn
 have hdk:=hg.d.kn
 have hlenE:=hg.e.len
 have hgk:=hT.choose_spec.1.kn
 simp(disch:=try exact jz)only[go_sem,hek,hlenE]
 refine aG (λq tm J'=>∃i,q=g.e.length-i/\i<=g.e.length/\r8 tm 3=.c (.ptr (J.aj+1) 0)/\r8 tm 5=.c (.sl (J.aj+1+1) 0 g.e.length (.ex g.e.length))/\r8 tm 15=.c ev/\r8 tm 16=jN g.e.length/\r8 tm 17=jN i
  /\J'.h (J.aj+1)=some ⟨[m,gv,n2,n3,n4,n5,n6,n7],none⟩/\J'.h (J.aj+1+1)=some ⟨ones g.e.length (NH g L i false),none⟩/\Fr J J'/\J.aj+1+1+1<=J'.aj) g.e.length ?_ ?_
 .refine⟨0,jb,jb,?_⟩
  refine WP ?_
  refine⟨?_,?_,jb⟩
  .rw[ahs g L]
  .exact fr
 .rintro q tm J' ⟨i,rfl,hi,t3,t5,t15,t16,t17,q1,q2,hf,hnx⟩
  have hle:=hf.le
  simp(disch:=try exact jz)only[go_sem,t16,t17,aC]
  refine aH (λhlt=>?_) (λhlt=>?_)
  .obtain⟨b,o,c,rfl,C,A,hld,vP,hC,hA⟩:=hg.e.at hlt
   have hld:=hf.ld hW hld
   have Om:=hC.kn
   have hAk:=hA.kn
   have Fe:=hC.len
   have aB0:=hcl i hlt
   have hs1:=hs i hlt
   have aB6:shO g L i=shB (ix g.e i).c L i (ix g.e i).c.length:=rfl
   generalize ix g.e i=e at*
   simp(disch:=try exact jz)only[go_sem,t15,t17,hld,Om,Fe]
   refine aG (λq tm σ3=>∃k,q=e.c.length-k/\k<=e.c.length/\r8 tm 3=.c (.ptr (J.aj+1) 0)/\r8 tm 5=.c (.sl (J.aj+1+1) 0 g.e.length (.ex g.e.length))/\r8 tm 6=jN i/\r8 tm 15=.c (.sl b o g.e.length c)/\r8 tm 16=jN g.e.length/\r8 tm 17=jN i
    /\r8 tm 23=.c C/\r8 tm 24=jN e.c.length/\r8 tm 25=jN k
    /\σ3.h (J.aj+1)=some ⟨[m,gv,n2,n3,n4,n5,n6,n7],none⟩/\σ3.h (J.aj+1+1)=some ⟨ones g.e.length (NH g L i (shB e.c L i k)),none⟩/\Fr J σ3/\J.aj+1+1+1<=σ3.aj) e.c.length ?_ ?_
   .refine⟨0,jb,jb,?_⟩
    refine W1 ?_
    exact⟨q1,q2,fr,jb⟩
   .rintro q tm3 σ3 ⟨k,rfl,hk,t3,t5,t6,t15,t16,t17,t23,t24,t25,q1,q2,hf3,hn3⟩
    have hle3:=hf3.le
    simp(disch:=try exact jz)only[go_sem,t24,t25,aC]
    refine aH (λhlk=>?_) (λhlk=>?_)
    .obtain⟨b5,o5,c5,e5,-,bD⟩:=hC.pos jb
     have bD:=hf3.ld hW (bD k hlk)
     unfold Ym at bD
     rw[e5]at t23
     obtain⟨z1,z2⟩:=hs1 k hlk
     have hsh:shB e.c L i (k+1)=(shB e.c L i k||(decide ((ix e.c k).r<Int.ofNat 6)&&decide (qw L i k<(ix e.c k).a.q))):=rfl
     simp(disch:=try exact jz)only[go_sem,t23,t25,bD]
     refine Af (λhr=>?_) (λhr=>?_)
     .simp(disch:=try exact jz)only[go_sem,t3,t6,ay q1,hgk,hm,k2,k3,k4,k5,k6,k7,hr]
      refine aB.st (Fr σ3) (by have hF:=Fr.refl hf3.wf;exact fr) λhF3=>?_
      have DY:=hf3.trans hF3
      refine(avz hF3.wf L (hT.fr hW DY) hm k2 k3 k4 k5 k6 k7 i k).mono ?_
      rintro _ σ4 ⟨rfl,hf4⟩
      have hz:=(hL.paid i k).two
      unfold rV rK
      have iK:=hF3.trans hf4
      have avM:=hf3.trans iK
      have qM:=iK.le
      have q1':=iK.get hf3.wf q1
      have q2':=iK.get hf3.wf q2
      have hst:σ4.h σ3.aj=some ⟨[.int .i64 (ix e.c k).h,.int .i64 (ix e.c k).r,.bool (ix e.c k).a.n,.str (ix e.c k).a.s,.str (ix e.c k).a.d],none⟩:=hf4.get hF3.wf (aA _ _ _)
      simp(disch:=try exact jz)only[go_sem,R3.aB5,aql,ay hst]
      refine aH (λhc=>?_) (λhc=>?_)
      .rw[aw hr,aw hc,cG,Bool.or_true]at hsh
       have ho:=ak3 g L i (shB e.c L i k) true
       simp(disch:=try exact jz)only[go_sem,W4,aJ q2',ho]
       refine⟨e.c.length-(k+1),jb,k+1,rfl,jb,by rw[e5],rfl,q1',by rw[hsh],fr,jb⟩
      .rw[ap hc,Bool.and_false,Bool.or_false]at hsh
       refine W0 ?_
       refine⟨e.c.length-(k+1),jb,k+1,rfl,jb,by rw[e5],rfl,q1',by rw[hsh];exact q2',avM,jb⟩
     .rw[ap hr,Bool.false_and,Bool.or_false]at hsh
      simp(disch:=try exact jz)only[go_sem,W4,hr]
      refine⟨e.c.length-(k+1),jb,k+1,rfl,jb,by rw[e5],rfl,q1,by rw[hsh];exact q2,fr,jb⟩
    .have:k=e.c.length:=jb
     subst this
     rw[<-aB6,ahr]at q2
     simp(disch:=try exact jz)only[go_sem,t3,t5,t15,t16,t17]
     exact⟨g.e.length-(i+1),jb,i+1,rfl,jb,rfl,q1,q2,hf3,hn3⟩
  .have:i=g.e.length:=jb
   subst this
   rw[ak4]at q2
   simp(disch:=try exact jz)only[go_sem,t5]
   exact⟨⟨_,rfl,q2,jb⟩,hf⟩
end
end Go.Proofs.Xe
