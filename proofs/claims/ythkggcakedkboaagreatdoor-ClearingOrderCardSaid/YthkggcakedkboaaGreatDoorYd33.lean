import Derived.Test.YthkggcakedkboaaGreatDoorYd27
set_option linter.all false
set_option maxHeartbeats 8000000
namespace Go.Proofs.Xe
open Go.RowKit Go.Proofs.Ins
def Fg(n i:Nat)(x:C5):Prop:=(x.h=-1\/∃j:Nat,j<n/\j≠i/\x.h=(j:Int))/\(∃r:Nat,r<=7/\x.r=(r:Int))/\∃v,x.a=vF (amt v)
def Iu(nc:Nat)(al:List gZ):Prop:=al.length<=2/\∀j,j<al.length->(ix al j).length=3/\∀t,t<3->Fe nc (al.take j) (ix (ix al j) t)/\(ix (ix al j) t).length<=nc+1
section
variable {h h' : Tr Bk} {dv:B} {n eb:Nat} {m:Nat→Rat} {cl:Nat→List C5} {bs:Nat→Nat} {A:Nat→B} {al:Nat→List gZ} {dl:List uH} {lo hi:Nat}
def arP{i nx:Nat}(hi:i<n)(x:C5):xQ (bD n (sZ m cl bs A)) (i*5+3) [.sl nx 0 ((cl i).length+1) .opn]=some (bD n (sZ m (aO cl i (cl i++[x])) (aO bs i nx) A)):=by
 rw[yN (e:=5) (λ_=>rfl) hi kc];show some _=some _;congr 1;refine bF λj hj=>?_;unfold iT;by_cases e:j=i
 .subst e;rw[ab rfl];unfold sZ;rw[aN,aN,iW (l:=cl j++[x]) kc,az];rfl
 .rw[ae e];unfold sZ;rw[aP _ _ _ _ e,aP _ _ _ _ e]
def amU{i:Nat}{rv:B}(hi:i<n):xQ (bD n (sZ m cl bs A)) (i*5+4) [rv]=some (bD n (sZ m cl bs (aO A i rv))):=by
 rw[yN (e:=5) (λ_=>rfl) hi kc];show some _=some _;congr 1;refine bF λj hj=>?_;unfold iT;by_cases e:j=i
 .subst e;rw[ab rfl];unfold sZ;rw[aN];rfl
 .rw[ae e];unfold sZ;rw[aP _ _ _ _ e]
def uz.push(ho:uz h dv n eb m cl bs A al dl lo hi){i nx:Nat}(hi':i<n)(x:C5)(hnx:hi<=nx){hi2:Nat}(h2:nx<hi2)(he:h' eb=some ⟨bD n (sZ m (aO cl i (cl i++[x])) (aO bs i nx) A),some (5,52)⟩)
  (hx:h' nx=some ⟨bD (cl i).length (clC (cl i))++Zz x,some (5,55)⟩) (hb:∀b,lo<=b->b<hi->b≠eb->(0<(cl i).length->b≠bs i)->h' b=h b):uz h' dv n eb m (aO cl i (cl i++[x])) (aO bs i nx) A al dl lo hi2:=by
 have hq:∀b,Qt lo hi eb n cl bs b->Qt lo hi2 eb n (aO cl i (cl i++[x])) (aO bs i nx) b:=λb q=>⟨q.1,by have:=q.2.1;omega,q.2.2.1,λj hj hp=>by
  by_cases e:j=i
  .subst e;rw[aN];have:=q.2.1;omega
  .rw[aP _ _ _ _ e]at hp⊢;exact q.2.2.2 j hj hp⟩
 have hk:∀b,Qt lo hi eb n cl bs b->h' b=h b:=λb q=>hb b q.1 q.2.1 q.2.2.1 λhp=>q.2.2.2 i hi' hp
 have hlo:=ho.elo
 have hhi:=ho.ehi
 refine⟨he,ho.elo,jb,λj hj hp=>?_,λa b ha hb' pa pb e=>?_,λj hj=>(ho.a j hj).keep hk hq,ho.d.keep hk hq⟩
 .by_cases e:j=i
  .subst e
   rw[aN,aN,az,bY]
   refine⟨?_,jb,h2,jb⟩
   rw[hx,jI]
   congr 2
   refine bF λk hk=>?_
   unfold iT clC
   split
   .next e=>rw[e,gB]
   .rw[gy _ _ jb]
  .rw[aP _ _ _ _ e]at hp⊢
   rw[aP _ _ _ _ e]
   obtain⟨k1,k2,k3,k4⟩:=ho.c j hj hp
   exact⟨by rw[hb _ k2 k3 k4 λhp2 e2=>e (ho.inj j i hj hi' hp hp2 e2)];exact k1,k2,jb,k4⟩
 .by_cases e1:a=i
  .by_cases e2:b=i
   .rw[e1,e2]
   .rw[e1,aN,aP _ _ _ _ e2]at e
    rw[aP _ _ _ _ e2]at pb
    have:=(ho.c b hb' pb).2.2.1
    omega
  .by_cases e2:b=i
   .rw[e2,aN,aP _ _ _ _ e1]at e
    rw[aP _ _ _ _ e1]at pa
    have:=(ho.c a ha pa).2.2.1
    omega
   .rw[aP _ _ _ _ e1]at pa
    rw[aP _ _ _ _ e2]at pb
    rw[aP _ _ _ _ e1,aP _ _ _ _ e2]at e
    exact ho.inj a b ha hb' pa pb e
def uz.axk(ho:uz h dv n eb m cl bs A al dl lo hi){i:Nat}(hi':i<n){rv:B}{l:List gZ}{hi2:Nat}(h2:hi<=hi2)(he:h' eb=some ⟨bD n (sZ m cl bs (aO A i rv)),some (5,52)⟩)
  (hb:∀b,lo<=b->b<hi->b≠eb->h' b=h b) (hr:jd (Qt lo hi2 eb n cl bs) h' rv l):uz h' dv n eb m cl bs (aO A i rv) (aO al i l) dl lo hi2:=by
 have hq:∀b,Qt lo hi eb n cl bs b->Qt lo hi2 eb n cl bs b:=λb q=>⟨q.1,by have:=q.2.1;omega,q.2.2⟩
 have hk:∀b,Qt lo hi eb n cl bs b->h' b=h b:=λb q=>hb b q.1 q.2.1 q.2.2.1
 refine⟨he,ho.elo,by have:=ho.ehi;omega,λj hj hp=>?_,ho.inj,λj hj=>?_,ho.d.keep hk hq⟩
 .obtain⟨k1,k2,k3,k4⟩:=ho.c j hj hp
  exact⟨by rw[hb _ k2 k3 k4];exact k1,k2,jb,k4⟩
 .by_cases e:j=i
  .subst e;rw[aN,aN];exact hr
  .rw[aP _ _ _ _ e,aP _ _ _ _ e];exact(ho.a j hj).keep hk hq
def uz.axl(ho:uz h dv n eb m cl bs A al dl lo hi){II:B}{l:List uH}{hi2:Nat}(h2:hi<=hi2)(hb:∀b,lo<=b->b<hi->h' b=h b)(hr:ku (Qt lo hi2 eb n cl bs) h' II l):uz h' II n eb m cl bs A al l lo hi2:=by have:=ho.mono hb h2;exact⟨this.e,this.elo,this.ehi,this.c,this.inj,this.a,hr⟩
def jd.none(p:Nat->Prop)(h:Tr Bk):jd p h .aV []:=⟨λ_=>.aV,.inl ⟨rfl,rfl⟩,λi hi=>by simp at hi⟩
def ku.none(p:Nat->Prop)(h:Tr Bk):ku p h .aV []:=⟨λ_=>.aV,.inl ⟨rfl,rfl⟩,λi hi=>by simp at hi⟩
def uz.start(he:h eb=some ⟨bD n (sZ m (λ_=>[]) (λ_=>0) (λ_=>.aV)),some (5,52)⟩)(h1:lo<=eb)(h2:eb<hi):uz h .aV n eb m (λ_=>[]) (λ_=>0) (λ_=>.aV) (λ_=>[]) [] lo hi:=
 ⟨he,h1,h2,λi _ hp=>by simp at hp,λi j _ _ hp=>by simp at hp,λ_ _=>jd.none _ _,ku.none _ _⟩
def amV(l:List C5):(bD l.length (clC l)).take (l.length*5)=bD l.length (clC l):=qP λ_=>rfl
def arQ(l:List C5):l.length*5<=(bD l.length (clC l)).length:=by rw[oH (e:=5) λ_=>rfl];exact jp
def Fg.snoc{i:Nat}{l:List C5}{x:C5}(hl:∀k,k<l.length->Fg n i (ix l k))(hx:Fg n i x):∀k,k<(l++[x]).length->Fg n i (ix (l++[x]) k):=λk hk=>by
 rw[az,bY]at hk;by_cases e:k=l.length
 .rw[e,gB];exact hx
 .rw[gy _ _ jb];exact hl k jb
end
structure GI(σ σ':St)(t11 n eb:Nat)(dv:B)(mm:Nat->Rat)(cl:Nat->List C5)(bs:Nat->Nat)(A:Nat->B)(al:Nat->List gZ)(dl:List uH):Prop where
 b:σ'.h t11=some ⟨[.sl eb 0 n .opn,dv],none⟩
 g:uz σ'.h dv n eb mm cl bs A al dl (t11+1) σ'.aj
 m:∀i,i<n->∃v,mm i=amt v
 c:∀i,i<n->(cl i).length<=6/\∀k,k<(cl i).length->Fg n i (ix (cl i) k)
 a:∀i,i<n->Iu (cl i).length (al i)
 d:dl.length<=3/\∀j,j<dl.length->(ix dl j).l.length<=4/\∃v,(ix dl j).w=vF (amt v)
 nx:t11+1<=σ'.aj
 lo:σ.aj<=t11
 fr:Fr σ σ'
 dg:∀j,j<dl.length->LGf (jC n mm cl al) (dl.take j) (ix dl j).l
def GI.step{σ σ' σ3:St}{t11 n eb:Nat}{dv:B}{m:Nat->Rat}{cl:Nat->List C5}{bs:Nat->Nat}{A:Nat->B}{al:Nat->List gZ}{dl:List uH}(hI:GI σ σ' t11 n eb dv m cl bs A al dl)(hf:Fr σ' σ3):GI σ σ3 t11 n eb dv m cl bs A al dl:=by have hn:=hI.nx;have hle:=hf.le;exact⟨by rw[hf.old _ jb];exact hI.b,hI.g.mono (λb _ hb=>hf.old b hb) hle,hI.m,hI.c,hI.a,hI.d,jb,hI.lo,hI.fr.trans hf,hI.dg⟩
def GI.push{σ σ':St}{t11 n eb:Nat}{dv:B}{m:Nat->Rat}{cl:Nat->List C5}{bs:Nat->Nat}(hI:GI σ σ' t11 n eb dv m cl bs (λ_=>.aV) (λ_=>[]) []){i nx n':Nat}{x:C5}{h':Tr Bk}(hi:i<n)(hl:(cl i).length<=5)(hx:Fg n i x)(hb:h' t11=some ⟨[.sl eb 0 n .opn,dv],none⟩)
  (he:h' eb=some ⟨bD n (sZ m (aO cl i (cl i++[x])) (aO bs i nx) (λ_=>.aV)),some (5,52)⟩) (hc:h' nx=some ⟨bD (cl i).length (clC (cl i))++Zz x,some (5,55)⟩)
  (ho:∀b,t11+1<=b->b<σ'.aj->b≠eb->(0<(cl i).length->b≠bs i)->h' b=σ'.h b) (hn:σ'.aj<=nx) (hn':nx<n') (hf:Fr σ ⟨h',n'⟩):GI σ ⟨h',n'⟩ t11 n eb dv m (aO cl i (cl i++[x])) (aO bs i nx) (λ_=>.aV) (λ_=>[]) []:=by
 have hn0:=hI.nx
 refine⟨hb,hI.g.push hi x hn hn' he hc ho,hI.m,λj hj=>?_,λj hj=>⟨bp _,λk hk=>by simp at hk⟩,hI.d,by show _<=n';omega,hI.lo,hf,λj hj=>by simp at hj⟩
 by_cases e:j=i
 .subst e
  rw[aN,az,bY]
  refine⟨jb,λk hk=>?_⟩
  exact Fg.snoc (hI.c j hj).2 hx k (by rw[az,bY];exact hk)
 .rw[aP _ _ _ _ e];exact hI.c j hj
def Iu.len{nc:Nat}{al:List gZ}(h:Iu nc al)(hn:nc<=10):aq8 al:=⟨by have:=h.1;omega,λj hj=>by obtain⟨h1,h2⟩:=h.2 j hj;exact⟨jb,λt ht=>by have:=(h2 t jb).2;omega⟩⟩
def Iu.snoc{nc:Nat}{al:List gZ}{a:gZ}(h:Iu nc al)(h1:al.length<=1)(ha:a.length=3)(hg:∀t,t<3->Fe nc al (ix a t)/\(ix a t).length<=nc+1):Iu nc (al++[a]):=by
 refine⟨by simp;omega,λj hj=>?_⟩;rw[az,bY]at hj;by_cases e:j=al.length
 .subst e;rw[gB,List.take_left']
  .exact⟨ha,hg⟩
  .rfl
 .rw[gy _ _ jb,gT jb];exact h.2 j jb
def GI.agr{σ σ' σ3:St}{t11 n eb:Nat}{dv:B}{m:Nat->Rat}{cl:Nat->List C5}{bs:Nat->Nat}{A:Nat->B}{al:Nat->List gZ}{dl:List uH}(hI:GI σ σ' t11 n eb dv m cl bs A al dl)(hf3:Fr σ' σ3)(h0:dl=[]){i n':Nat}{rv:B}{a:gZ}{h':Tr Bk}(hi:i<n)(h1:(al i).length<=1)
  (hr:jd (λb=>Qt (t11+1) σ'.aj eb n cl bs b\/σ'.aj<=b/\b<σ3.aj) σ3.h rv (al i++[a])) (ha:a.length=3) (hg:∀t,t<3->Fe (cl i).length (al i) (ix a t)/\(ix a t).length<=(cl i).length+1)
  (hb:h' t11=some ⟨[.sl eb 0 n .opn,dv],none⟩) (he:h' eb=some ⟨bD n (sZ m cl bs (aO A i rv)),some (5,52)⟩) (ho:∀b,t11+1<=b->b<σ3.aj->b≠eb->h' b=σ3.h b) (hn:σ3.aj<=n') (hf:Fr σ ⟨h',n'⟩):GI σ ⟨h',n'⟩ t11 n eb dv m cl bs (aO A i rv) (aO al i (al i++[a])) dl:=by
 have hn0:=hI.nx
 have hle:=hf3.le
 have arR:=hI.g.ehi
 refine⟨hb,(hI.g.mono (λb _ hb=>hf3.old b hb) hle).axk hi hn he (λb b1 b2 b3=>ho b b1 b2 b3) (hr.keep (λb hq=>?_) λb hq=>?_),hI.m,hI.c,λj hj=>?_,hI.d,by show _<=n';omega,hI.lo,hf,λj hj=>by rw[h0]at hj;simp at hj⟩
 .rcases hq with hq|hq
  .exact ho b hq.1 (by have:=hq.2.1;omega) hq.2.2.1
  .exact ho b jb hq.2 jb
 .rcases hq with hq|hq
  .exact⟨hq.1,show b<n' by have:=hq.2.1;omega,hq.2.2⟩
  .obtain⟨h8,h9⟩:=hq
   exact⟨jb,show b<n' by omega,jb,λj hj hp=>by have:=(hI.g.c j hj hp).2.2.1;omega⟩
 .by_cases e:j=i
  .subst e;rw[aN];exact(hI.a j hj).snoc h1 ha hg
  .rw[aP _ _ _ _ e];exact hI.a j hj
def GI.dbt{σ σ' σ3:St}{t11 n eb:Nat}{dv:B}{m:Nat->Rat}{cl:Nat->List C5}{bs:Nat->Nat}{A:Nat->B}{al:Nat->List gZ}{dl:List uH}(hI:GI σ σ' t11 n eb dv m cl bs A al dl)(hf3:Fr σ' σ3){n':Nat}{rv:B}{d:uH}{h':Tr Bk}(h1:dl.length<=2)
  (hr:ku (λb=>Qt (t11+1) σ'.aj eb n cl bs b\/σ'.aj<=b/\b<σ3.aj) σ3.h rv (dl++[d])) (hd:d.l.length<=4/\∃v,d.w=vF (amt v)) (hdg:LGf (jC n m cl al) dl d.l)
  (hb:h' t11=some ⟨[.sl eb 0 n .opn,rv],none⟩) (ho:∀b,t11+1<=b->b<σ3.aj->h' b=σ3.h b) (hn:σ3.aj<=n') (hf:Fr σ ⟨h',n'⟩):GI σ ⟨h',n'⟩ t11 n eb rv m cl bs A al (dl++[d]):=by
 have hn0:=hI.nx
 have hle:=hf3.le
 have arR:=hI.g.ehi
 refine⟨hb,(hI.g.mono (λb _ hb=>hf3.old b hb) hle).axl hn (λb b1 b2=>ho b b1 b2) (hr.keep (λb hq=>?_) λb hq=>?_),hI.m,hI.c,hI.a,⟨by simp;omega,λj hj=>?_⟩,by show _<=n';omega,hI.lo,hf,λj hj=>?_⟩
 .rcases hq with hq|hq
  .exact ho b hq.1 (by have:=hq.2.1;omega)
  .exact ho b jb hq.2
 .rcases hq with hq|hq
  .exact⟨hq.1,show b<n' by have:=hq.2.1;omega,hq.2.2⟩
  .obtain⟨h8,h9⟩:=hq
   exact⟨jb,show b<n' by omega,jb,λj hj hp=>by have:=(hI.g.c j hj hp).2.2.1;omega⟩
 .rw[az,bY]at hj
  by_cases e:j=dl.length
  .rw[e,gB];exact hd
  .rw[gy _ _ jb];exact hI.d.2 j jb
 .rw[az,bY]at hj
  by_cases e:j=dl.length
  .rw[e,gB,List.take_left' rfl];exact hdg
  .rw[gy _ _ jb,gT jb];exact hI.dg j jb
def XV:amt 0=0:=by rw[abe jj];show((0:Int):Rat)/((1:Int):Rat)=0;grind
structure G0(σ σ':St)(t11 i:Nat)(ev:B)(m:Nat->Rat):Prop where
 b:σ'.h t11=some ⟨[ev,.aV],none⟩
 e:(i=0/\ev=.aV)\/∃eb,ev=.sl eb 0 i .opn/\0<i/\σ'.h eb=some ⟨bD i (sZ m (λ_=>[]) (λ_=>0) (λ_=>.aV)),some (5,52)⟩/\t11+1<=eb/\eb<σ'.aj
 m:∀j,j<i->∃v,m j=amt v
 nx:t11+1<=σ'.aj
 fr:Fr σ σ'
def ai0(i:Nat)(m:Nat->Rat)(cl:Nat->List C5)(bs:Nat->Nat)(A:Nat->B):(bD i (sZ m cl bs A)).take (i*5)=bD i (sZ m cl bs A):=qP λ_=>rfl
def amW(i:Nat)(m:Nat->Rat)(cl:Nat->List C5)(bs:Nat->Nat)(A:Nat->B):i*5<=(bD i (sZ m cl bs A)).length:=by rw[oH (e:=5) λ_=>rfl];exact jp
def G0.push{σ σ':St}{t11 i:Nat}{ev:B}{m:Nat->Rat}(hG:G0 σ σ' t11 i ev m){q:Rat}(hq:∃v,q=amt v){h':Tr Bk}{nx n':Nat}(hb:h' t11=some ⟨[.sl nx 0 (i+1) .opn,.aV],none⟩)
  (hx:h' nx=some ⟨bD i (sZ m (λ_=>[]) (λ_=>0) (λ_=>.aV))++[.bool (rn q),.str (rs q),.str (rd q),.aV,.aV],some (5,52)⟩) (hn:σ'.aj<=nx) (hn':nx<n') (hf:Fr σ ⟨h',n'⟩):G0 σ ⟨h',n'⟩ t11 (i+1) (.sl nx 0 (i+1) .opn) (aO m i q):=by
 have hn0:=hG.nx
 refine⟨hb,.inr ⟨nx,rfl,jb,?_,jb,hn'⟩,λj hj=>?_,by show _<=n';omega,hf⟩
 .show h' nx=_
  rw[hx,jI]
  congr 2
  refine bF λj hj=>?_
  unfold iT sZ
  by_cases e:j=i
  .rw[ab e,e,aN];rfl
  .rw[ae e,aP _ _ _ _ e]
 .unfold aO
  split
  .exact hq
  .exact hG.m j jb
set_option maxRecDepth 10000 in
def amX{σ:St}(hW:WF σ){nm XW nl np nd:Nat}(hnm:nm<=255){cv lv pv dv:B}(M:Nat->Nat)(L P D:Nat->Nat->Nat)(hcv:HL σ.h 1 cv XW λi=>[.int .u16 (.ofNat (M i))])(hM:∀i,i<XW->M i<=65535)
  (hlv:HL σ.h 4 lv nl λi=>[.int .u16 (.ofNat (L i 0)),.int .u16 (.ofNat (L i 1)),.int .u16 (.ofNat (L i 2)),.int .u16 (.ofNat (L i 3))]) (hL:∀i j,i<nl->L i j<=65535) (hnl:nl<=9223372036854775806)
  (hpv:HL σ.h 3 pv np λi=>[.int .u16 (.ofNat (P i 0)),.int .u16 (.ofNat (P i 1)),.int .u16 (.ofNat (P i 2))]) (hP:∀i j,i<np->P i j<=65535) (hnp:np<=9223372036854775806)
  (hdv:HL σ.h 3 dv nd λi=>[.int .u16 (.ofNat (D i 0)),.int .u16 (.ofNat (D i 1)),.int .u16 (.ofNat (D i 2))]) (hD:∀i j,i<nd->D i j<=65535) (hnd:nd<=9223372036854775806):
  aC EN 12 [.c (.int .u8 (.ofNat nm)),.c cv,.c lv,.c pv,.c dv] σ λr σ'=>∃eb II m cl bs A al dl,r=.agg [.sl eb 0 (1+nm%4) .opn,II]/\GI σ σ' (σ.aj+1) (1+nm%4) eb II m cl bs A al dl:=by
 refine aQ (FI.o _ _) FI.h ?_
 unfold FI
 dsimp only
 simp(disch:=try exact jz) only[go_sem,z3]
 have hs1:1<=1+nm%4:=jb
 have hs4:1+nm%4<=4:=jb
 generalize 1+nm%4=n at*
 refine bH.mono (Q:=λe tm σ'=>e=.exit 0/\∃ev m,Tr.ah tm 2=.c lv/\Tr.ah tm 3=.c pv/\Tr.ah tm 4=.c dv/\Tr.ah tm 10=.c (.ptr σ.aj 0)/\Tr.ah tm 11=.c (.ptr (σ.aj+1) 0)/\Tr.ah tm 12=.c (.int .i64 (.ofNat n))/\σ'.h σ.aj=some ⟨[.aV,.aV],none⟩/\G0 σ σ' (σ.aj+1) n ev m)
  (aF (λq tm σ'=>∃i ev m,q=n-i/\i<=n/\Tr.ah tm 1=.c cv/\Tr.ah tm 2=.c lv/\Tr.ah tm 3=.c pv/\Tr.ah tm 4=.c dv/\Tr.ah tm 10=.c (.ptr σ.aj 0)/\Tr.ah tm 11=.c (.ptr (σ.aj+1) 0)/\Tr.ah tm 12=.c (.int .i64 (.ofNat n))/\Tr.ah tm 13=.c (.int .i64 (.ofNat i))
   /\σ'.h σ.aj=some ⟨[.aV,.aV],none⟩/\G0 σ σ' (σ.aj+1) i ev m) n ?_ ?_) ?_
 .refine⟨0,.aV,λ_=>0,jb,jb,?_⟩
  simp(disch:=try exact jz) only[go_sem,z3,am]
  refine⟨?_,.inl ⟨rfl,rfl⟩,λj hj=>jb,?_,?_⟩
  .rw[aA]
  .show σ.aj+1+1<=σ.aj+1+1;omega
  .exact fr
 .rintro q tm σ' ⟨i,ev,m,rfl,hi,t1,t2,t3,t4,t10,t11,t12,t13,q0,hG⟩
  have hF:=hG.fr
  have hle:=hF.le
  have hnx:=hG.nx
  have hb:=hG.b
  have hlen:=hcv.len
  simp(disch:=try exact jz) only[go_sem,z3,t1,t2,t3,t4,t10,t11,t12,t13,aG]
  refine aH (λhlt=>?_) (λhlt=>?_)
  .simp(disch:=try exact jz) only[go_sem,z3,t1,t2,t3,t4,t10,t11,t12,t13,hlen,aG]
   have hel:=amW i m (λ_=>[]) (λ_=>0) (λ_=>.aV)
   have het:=ai0 i m (λ_=>[]) (λ_=>0) (λ_=>.aV)
   refine aH (λhc=>?_) (λhc=>?_)
   .obtain⟨b,o,c,rfl,hld⟩:=hcv.one jb
    have hld:=hF.ld hW (hld i hc)
    have hbl:=hF.wf.dw hld
    have hMi:=hM i hc
    rcases hG.e with⟨rfl,rfl⟩|⟨eb,rfl,hi0,k1,k2,k3⟩
    .simp(disch:=try exact jz) only[go_sem,z3,t1,t2,t3,t4,t10,t11,t12,t13,hld,au hb,hb]
     refine⟨n-(1),jb,1,_,aO m 0 (amt (M 0)),rfl,jb,rfl,q0,hG.push (nx:=σ'.aj+1+1) ⟨_,rfl⟩ ?_ ?_ ?_ ?_ ?_⟩
     .rw[aA]
     .rw[ak _ _ _ _ jb,aA]<;>rfl
     .omega
     .omega
     .exact fr
    .simp(disch:=try exact jz) only[go_sem,z3,t1,t2,t3,t4,t10,t11,t12,t13,hld,au hb,hb,k1,het]
     refine⟨n-(i+1),jb,i+1,_,aO m i (amt (M i)),rfl,jb,rfl,q0,hG.push (nx:=σ'.aj+1+1) ⟨_,rfl⟩ ?_ ?_ ?_ ?_ ?_⟩
     .rw[aA]
     .rw[ak _ _ _ _ jb,aA]<;>rfl
     .omega
     .omega
     .exact fr
   .rcases hG.e with⟨rfl,rfl⟩|⟨eb,rfl,hi0,k1,k2,k3⟩
    .simp(disch:=try exact jz) only[go_sem,z3,t1,t2,t3,t4,t10,t11,t12,t13,au hb,hb]
     refine⟨n-(1),jb,1,_,aO m 0 (0),rfl,jb,rfl,q0,hG.push (nx:=σ'.aj+1+1) ⟨0,XV.symm⟩ ?_ ?_ ?_ ?_ ?_⟩
     .rw[aA]
     .rw[ak _ _ _ _ jb,aA]<;>rfl
     .omega
     .omega
     .exact fr
    .simp(disch:=try exact jz) only[go_sem,z3,t1,t2,t3,t4,t10,t11,t12,t13,au hb,hb,k1,het]
     refine⟨n-(i+1),jb,i+1,_,aO m i (0),rfl,jb,rfl,q0,hG.push (nx:=σ'.aj+1+1) ⟨0,XV.symm⟩ ?_ ?_ ?_ ?_ ?_⟩
     .rw[aA]
     .rw[ak _ _ _ _ jb,aA]<;>rfl
     .omega
     .omega
     .exact fr
  .have:i=n:=jb
   subst this
   simp(disch:=try exact jz) only[go_sem,z3,t1,am]
   exact⟨ev,m,t2,t3,t4,t10,t11,t12,q0,hG⟩
 .rintro _ tm σ' ⟨rfl,ev,m,t2,t3,t4,t10,t11,t12,q0,hG⟩
  have hlenL:=hlv.len
  obtain⟨eb,rfl,hn0,k1,k2,k3⟩:=hG.e.resolve_left jb
  have hG1:GI σ σ' (σ.aj+1) n eb .aV m (λ_=>[]) (λ_=>0) (λ_=>.aV) (λ_=>[]) []:=
   ⟨hG.b,uz.start k1 k2 k3,hG.m,λi hi=>⟨bp _,λk hk=>by simp at hk⟩,λi hi=>⟨bp _,λj hj=>by simp at hj⟩,⟨bp _,λj hj=>by simp at hj⟩,hG.nx,jb,hG.fr,λj hj=>by simp at hj⟩
  simp(disch:=try exact jz) only[go_sem,z3,t2,hlenL]
  refine bH.mono (Q:=λe tm σ'=>e=.exit 2/\∃cl bs,Tr.ah tm 3=.c pv/\Tr.ah tm 4=.c dv/\Tr.ah tm 10=.c (.ptr σ.aj 0)/\Tr.ah tm 11=.c (.ptr (σ.aj+1) 0)/\Tr.ah tm 12=.c (.int .i64 (.ofNat n))/\σ'.h σ.aj=some ⟨[.aV,.aV],none⟩/\GI σ σ' (σ.aj+1) n eb .aV m cl bs (λ_=>.aV) (λ_=>[]) [])
   (aF (λq tm σ'=>∃k cl bs,q=nl-k/\k<=nl/\Tr.ah tm 3=.c pv/\Tr.ah tm 4=.c dv/\Tr.ah tm 10=.c (.ptr σ.aj 0)/\Tr.ah tm 11=.c (.ptr (σ.aj+1) 0)/\Tr.ah tm 12=.c (.int .i64 (.ofNat n))/\Tr.ah tm 51=.c lv/\Tr.ah tm 52=.c (.int .i64 (.ofNat nl))/\Tr.ah tm 53=.c (.int .i64 (.ofNat k))/\σ'.h σ.aj=some ⟨[.aV,.aV],none⟩/\GI σ σ' (σ.aj+1) n eb .aV m cl bs (λ_=>.aV) (λ_=>[]) []) nl ?_ ?_) ?_
  .refine⟨0,λ_=>[],λ_=>0,jb,jb,?_⟩
   simp(disch:=try exact jz) only[go_sem,z3,t2,t3,t4,t10,t11,t12,am]
   exact⟨q0,hG1⟩
  .rintro q tm σ' ⟨k,cl,bs,rfl,hk,t3,t4,t10,t11,t12,t51,t52,t53,q0,hI⟩
   have hF:=hI.fr
   have hle:=hF.le
   have hnx:=hI.nx
   have hb:=hI.b
   have axn:=hI.g.elo
   have arR:=hI.g.ehi
   have heE:=hI.g.e
   simp(disch:=try exact jz) only[go_sem,z3,t3,t4,t10,t11,t12,t51,t52,t53,aG]
   refine aH (λhlt=>?_) (λhlt=>?_)
   .obtain⟨b,o,c,rfl,hld⟩:=hlv.pos jb
    have hld:=hF.ld hW (hld k hlt)
    have l0:=hL k 0 hlt
    have l1:=hL k 1 hlt
    have l2:=hL k 2 hlt
    have l3:=hL k 3 hlt
    have hm0:L k 0%n<n:=cL _ jb
    have hlC:=hI.g.ldC hm0
    have hc6:=(hI.c _ hm0).1
    generalize hx:L k 0%n=i at*
    have hfl:=Ij (cl i) (bs i)
    have hfk:=qQ (cl i) (bs i)
    have hge:∀a b:Nat,decide (Int.ofNat a<=Int.ofNat b)=decide (a<=b):=λa b=>by simp
    simp(disch:=try exact jz) only[go_sem,z3,t3,t4,t10,t11,t12,t51,t52,t53,hld,hx,au hb,hlC,hfl,hge]
    refine aH (λh6=>?_) (λh6=>?_)
    .simp(disch:=try exact jz) only[go_sem,z3,t3,t4,t10,t11,t12,t51,t52,t53]
     exact⟨nl-(k+1),jb,k+1,cl,bs,rfl,jb,rfl,q0,hI.step (by have hFr:=Fr.refl hF.wf;exact fr)⟩
    .have hct:=amV (cl i)
     have hcn:=arQ (cl i)
     have hn1:0<n+1:=jb
     have hgood:∀hv:Int,(hv=-1\/∃j:Nat,j<n/\j≠i/\hv=(j:Int))->Fg n i ⟨hv,.ofNat (L k 2%3),vF (amt (L k 3))⟩:=λhv h=>⟨h,⟨L k 2%3,jb,rfl⟩,_,rfl⟩
     have hwC:=λx=>arP (m:=m) (cl:=cl) (bs:=bs) (A:=λ_=>.aV) (nx:=σ'.aj+1+1) hm0 x
     simp(disch:=try exact jz) only[go_sem,z3,t3,t4,t10,t11,t12,t51,t52,t53]
     refine Ws (λhq=>?_) (λhq=>?_)
     .have hw:=hwC ⟨-1,.ofNat (L k 2%3),vF (amt (L k 3))⟩
      by_cases hz:(cl i).length=0
      .have he:lu (cl i) (bs i)=.aV:=by unfold lu;rw[ab hz]
       rw[hz]at hw
       simp(disch:=try exact jz) only[go_sem,z3,t3,t4,t10,t11,t12,t51,t52,t53,hx,au hb,hlC,he,aI heE,heE,hw,hq]
       refine⟨nl-(k+1),jb,k+1,aO cl i (cl i++[⟨-1,.ofNat (L k 2%3),vF (amt (L k 3))⟩]),aO bs i (σ'.aj+1+1),rfl,jb,rfl,q0,hI.push hm0 jb (hgood _ (.inl rfl)) ?_ ?_ ?_ ?_ ?_ ?_ ?_⟩
       .simp(disch:=omega) only[ak,fM];exact hb
       .rw[aA]
       .rw[ak _ _ _ _ jb,aA,hz];rfl
       .intro b9 h9 h8 h7 h6;simp(disch:=first|assumption|omega) only[ak,fM]
       .omega
       .omega
       .exact fr
      .have he:=iW (l:=cl i) jb (bs i)
       obtain⟨c1,c2,c3,c4⟩:=hI.g.c i hm0 jb
       simp(disch:=try exact jz) only[go_sem,z3,t3,t4,t10,t11,t12,t51,t52,t53,hx,au hb,hlC,he,c1,hct,aI heE,heE,hw,hq]
       refine⟨nl-(k+1),jb,k+1,aO cl i (cl i++[⟨-1,.ofNat (L k 2%3),vF (amt (L k 3))⟩]),aO bs i (σ'.aj+1+1),rfl,jb,rfl,q0,hI.push hm0 jb (hgood _ (.inl rfl)) ?_ ?_ ?_ ?_ ?_ ?_ ?_⟩
       .simp(disch:=omega) only[ak,fM];exact hb
       .rw[aA]
       .rw[ak _ _ _ _ jb,aA];rfl
       .intro b9 h9 h8 h7 h6;have h6:=h6 jb;simp(disch:=first|assumption|omega) only[ak,fM]
       .omega
       .omega
       .exact fr
     .simp(disch:=try exact jz) only[go_sem,z3,t3,t4,t10,t11,t12,t51,t52,t53,hq,hge]
      refine aH (λhq2=>?_) (λhq2=>?_)
      .have hw:=hwC ⟨-1,.ofNat (L k 2%3),vF (amt (L k 3))⟩
       by_cases hz:(cl i).length=0
       .have he:lu (cl i) (bs i)=.aV:=by unfold lu;rw[ab hz]
        rw[hz]at hw
        simp(disch:=try exact jz) only[go_sem,z3,t3,t4,t10,t11,t12,t51,t52,t53,hx,au hb,hlC,he,aI heE,heE,hw]
        refine⟨nl-(k+1),jb,k+1,aO cl i (cl i++[⟨-1,.ofNat (L k 2%3),vF (amt (L k 3))⟩]),aO bs i (σ'.aj+1+1),rfl,jb,rfl,q0,hI.push hm0 jb (hgood _ (.inl rfl)) ?_ ?_ ?_ ?_ ?_ ?_ ?_⟩
        .simp(disch:=omega) only[ak,fM];exact hb
        .rw[aA]
        .rw[ak _ _ _ _ jb,aA,hz];rfl
        .intro b9 h9 h8 h7 h6;simp(disch:=first|assumption|omega) only[ak,fM]
        .omega
        .omega
        .exact fr
       .have he:=iW (l:=cl i) jb (bs i)
        obtain⟨c1,c2,c3,c4⟩:=hI.g.c i hm0 jb
        simp(disch:=try exact jz) only[go_sem,z3,t3,t4,t10,t11,t12,t51,t52,t53,hx,au hb,hlC,he,c1,hct,aI heE,heE,hw]
        refine⟨nl-(k+1),jb,k+1,aO cl i (cl i++[⟨-1,.ofNat (L k 2%3),vF (amt (L k 3))⟩]),aO bs i (σ'.aj+1+1),rfl,jb,rfl,q0,hI.push hm0 jb (hgood _ (.inl rfl)) ?_ ?_ ?_ ?_ ?_ ?_ ?_⟩
        .simp(disch:=omega) only[ak,fM];exact hb
        .rw[aA]
        .rw[ak _ _ _ _ jb,aA];rfl
        .intro b9 h9 h8 h7 h6;have h6:=h6 jb;simp(disch:=first|assumption|omega) only[ak,fM]
        .omega
        .omega
        .exact fr
      .have hw:=hwC ⟨.ofNat (L k 1%(n+1)),.ofNat (L k 2%3),vF (amt (L k 3))⟩
       by_cases hz:(cl i).length=0
       .have he:lu (cl i) (bs i)=.aV:=by unfold lu;rw[ab hz]
        rw[hz]at hw
        simp(disch:=try exact jz) only[go_sem,z3,t3,t4,t10,t11,t12,t51,t52,t53,hx,au hb,hlC,he,aI heE,heE,hw]
        refine⟨nl-(k+1),jb,k+1,aO cl i (cl i++[⟨.ofNat (L k 1%(n+1)),.ofNat (L k 2%3),vF (amt (L k 3))⟩]),aO bs i (σ'.aj+1+1),rfl,jb,rfl,q0,hI.push hm0 jb (hgood _ (.inr ⟨_,jb,hq,rfl⟩)) ?_ ?_ ?_ ?_ ?_ ?_ ?_⟩
        .simp(disch:=omega) only[ak,fM];exact hb
        .rw[aA]
        .rw[ak _ _ _ _ jb,aA,hz];rfl
        .intro b9 h9 h8 h7 h6;simp(disch:=first|assumption|omega) only[ak,fM]
        .omega
        .omega
        .exact fr
       .have he:=iW (l:=cl i) jb (bs i)
        obtain⟨c1,c2,c3,c4⟩:=hI.g.c i hm0 jb
        simp(disch:=try exact jz) only[go_sem,z3,t3,t4,t10,t11,t12,t51,t52,t53,hx,au hb,hlC,he,c1,hct,aI heE,heE,hw]
        refine⟨nl-(k+1),jb,k+1,aO cl i (cl i++[⟨.ofNat (L k 1%(n+1)),.ofNat (L k 2%3),vF (amt (L k 3))⟩]),aO bs i (σ'.aj+1+1),rfl,jb,rfl,q0,hI.push hm0 jb (hgood _ (.inr ⟨_,jb,hq,rfl⟩)) ?_ ?_ ?_ ?_ ?_ ?_ ?_⟩
        .simp(disch:=omega) only[ak,fM];exact hb
        .rw[aA]
        .rw[ak _ _ _ _ jb,aA];rfl
        .intro b9 h9 h8 h7 h6;have h6:=h6 jb;simp(disch:=first|assumption|omega) only[ak,fM]
        .omega
        .omega
        .exact fr
   .have:k=nl:=jb
    simp(disch:=try exact jz) only[go_sem,z3,am]
    exact⟨cl,bs,t3,t4,t10,t11,t12,q0,hI⟩
  .rintro _ tm σ' ⟨rfl,cl,bs,t3,t4,t10,t11,t12,q0,hI⟩
   have Ol:=hpv.len
   simp(disch:=try exact jz) only[go_sem,z3,t3,Ol]
   refine bH.mono (Q:=λe tm σ'=>e=.exit 4/\∃A al,Tr.ah tm 4=.c dv/\Tr.ah tm 10=.c (.ptr σ.aj 0)/\Tr.ah tm 11=.c (.ptr (σ.aj+1) 0)/\σ'.h σ.aj=some ⟨[.aV,.aV],none⟩/\GI σ σ' (σ.aj+1) n eb .aV m cl bs A al [])
    (aF (λq tm σ'=>∃k A al,q=np-k/\k<=np/\Tr.ah tm 4=.c dv/\Tr.ah tm 10=.c (.ptr σ.aj 0)/\Tr.ah tm 11=.c (.ptr (σ.aj+1) 0)/\Tr.ah tm 12=.c (.int .i64 (.ofNat n))/\Tr.ah tm 107=.c pv/\Tr.ah tm 108=.c (.int .i64 (.ofNat np))/\Tr.ah tm 109=.c (.int .i64 (.ofNat k))/\σ'.h σ.aj=some ⟨[.aV,.aV],none⟩/\GI σ σ' (σ.aj+1) n eb .aV m cl bs A al []) np ?_ ?_) ?_
   .refine⟨0,λ_=>.aV,λ_=>[],jb,jb,?_⟩
    simp(disch:=try exact jz) only[go_sem,z3,t3,t4,t10,t11,t12,am]
    exact⟨q0,hI⟩
   .rintro q tm σ' ⟨k,A,al,rfl,hk,t4,t10,t11,t12,t107,UY,t109,q0,hI⟩
    have hF:=hI.fr
    have hle:=hF.le
    have hnx:=hI.nx
    have hb:=hI.b
    have axn:=hI.g.elo
    have arR:=hI.g.ehi
    have heE:=hI.g.e
    simp(disch:=try exact jz) only[go_sem,z3,t4,t10,t11,t12,t107,UY,t109,aG]
    refine aH (λhlt=>?_) (λhlt=>?_)
    .obtain⟨b,o,c,rfl,hld⟩:=hpv.pos jb
     have hld:=hF.ld hW (hld k hlt)
     have l0:=hP k 0 hlt
     have l1:=hP k 1 hlt
     have l2:=hP k 2 hlt
     have hm0:P k 0%n<n:=cL _ jb
     have hlA:=hI.g.ldA hm0
     have hlE:=hI.g.ldE hm0
     rw[cN]at hlE
     unfold sZ at hlE
     have hc6:=(hI.c _ hm0).1
     have hgA:=hI.a _ hm0
     have hAa:=hI.g.a _ hm0
     generalize hx:P k 0%n=i at*
     have hAl:=hAa.choose_spec.1.len
     have hAk:=hAa.kn
     have hfl:=Ij (cl i) (bs i)
     have hfk:=qQ (cl i) (bs i)
     simp(disch:=try exact jz) only[go_sem,z3,t4,t10,t11,t12,t107,UY,t109,hld,hx,au hb,hlA,hAl,aG]
     refine aH (λh2=>?_) (λh2=>?_)
     .simp(disch:=try exact jz) only[go_sem,z3,t4,t10,t11,t12,t107,UY,t109,hld,hx,au hb,hlE,hfk,hAk,aG]
      refine aC.st (Fr σ') (by have hFr:=Fr.refl hF.wf;exact fr) λhF3=>?_
      refine(amD hF3.wf (al i) (hAa.keep (λb hq=>hF3.old b hq.2.1) λ_ h=>h) (hgA.len jb) (cl i).length hfl jb rfl rfl rfl hfk _ _ _ l0 l1 l2).mono ?_
      rintro _ σ4 ⟨⟨rv,a,rfl,hr,ha,hg⟩,hf4⟩
      have oW:=hF3.trans hf4
      have axo:=hF.trans oW
      have hb4:=oW.get hF.wf hb
      have axp:=oW.get hF.wf heE
      have xM:=oW.le
      have axq:=oW.ld hF.wf hlE
      have axr:=hf4.get hF3.wf (aA _ _ _)
      have hw:=amU (m:=m) (cl:=cl) (bs:=bs) (A:=A) (rv:=rv) hm0
      simp(disch:=try exact jz) only[go_sem,z3,t4,t10,t11,t12,t107,UY,t109,au hb4,hb4,axq,axr,hfk,hAk,aI axp,hw]
      refine⟨np-(k+1),jb,k+1,aO A i rv,aO al i (al i++[a]),rfl,jb,rfl,oW.get hF.wf q0,hI.agr oW rfl hm0 jb (hr.keep (λ_ _=>rfl) λb9 h9=>h9.imp id λh9=>⟨by have h8:σ'.aj+1<=b9:=h9.1;omega,h9.2⟩) ha hg ?_ ?_ ?_ jp ?_⟩
      .rw[ak _ _ _ _ jb];exact hb4
      .rw[aA]
      .intro b9 h9 h8 h7
       rw[ak _ _ _ _ h7]
      .exact fr
     .simp(disch:=try exact jz) only[go_sem,z3,t4,t10,t11,t12,t107,UY,t109]
      exact⟨np-(k+1),jb,k+1,A,al,rfl,jb,rfl,q0,hI.step (by have hFr:=Fr.refl hF.wf;exact fr)⟩
    .simp(disch:=try exact jz) only[go_sem,z3,am]
     exact⟨A,al,t4,t10,t11,q0,hI⟩
   .rintro _ tm σ' ⟨rfl,A,al,t4,t10,t11,q0,hI⟩
    have hlenD:=hdv.len
    simp(disch:=try exact jz) only[go_sem,z3,t4,hlenD]
    refine bH.mono (Q:=λe tm σ'=>e=.exit 6/\∃II dl,Tr.ah tm 10=.c (.ptr σ.aj 0)/\Tr.ah tm 11=.c (.ptr (σ.aj+1) 0)/\σ'.h σ.aj=some ⟨[.aV,.aV],none⟩/\GI σ σ' (σ.aj+1) n eb II m cl bs A al dl)
     (aF (λq tm σ'=>∃k II dl,q=nd-k/\k<=nd/\Tr.ah tm 10=.c (.ptr σ.aj 0)/\Tr.ah tm 11=.c (.ptr (σ.aj+1) 0)/\Tr.ah tm 139=.c dv/\Tr.ah tm 140=.c (.int .i64 (.ofNat nd))/\Tr.ah tm 141=.c (.int .i64 (.ofNat k))/\σ'.h σ.aj=some ⟨[.aV,.aV],none⟩/\GI σ σ' (σ.aj+1) n eb II m cl bs A al dl) nd ?_ ?_) ?_
    .refine⟨0,.aV,[],jb,jb,?_⟩
     simp(disch:=try exact jz) only[go_sem,z3,t4,t10,t11,am]
     exact⟨q0,hI⟩
    .rintro q tm σ' ⟨k,II,dl,rfl,hk,t10,t11,t139,ai1,t141,q0,hI⟩
     have hF:=hI.fr
     have hle:=hF.le
     have hnx:=hI.nx
     have hb:=hI.b
     have hDD:=hI.g.d
     have hDl:=hDD.choose_spec.1.len
     have hDk:=hDD.kn
     have hGG:=hI.g.grp .opn
     have hd3:=hI.d.1
     simp(disch:=try exact jz) only[go_sem,z3,t10,t11,t139,ai1,t141,aG]
     refine aH (λhlt=>?_) (λhlt=>?_)
     .obtain⟨b,o,c,rfl,hld⟩:=hdv.pos jb
      have hld:=hF.ld hW (hld k hlt)
      have l0:=hD k 0 hlt
      have l1:=hD k 1 hlt
      have l2:=hD k 2 hlt
      simp(disch:=try exact jz) only[go_sem,z3,t10,t11,t139,ai1,t141,hld,au hb,hDk,hDl,aG]
      refine aH (λh2=>?_) (λh2=>?_)
      .simp(disch:=try exact jz) only[go_sem,z3,t10,t11,t139,ai1,t141,hld,au hb,hDk,hDl,aG]
       refine aC.st (Fr σ') (by have hFr:=Fr.refl hF.wf;exact fr) λhF3=>?_
       have hEl:(jC n m cl al).length=n:=oZ ..
       refine(auY hF3.wf (jC n m cl al) dl (p:=Qt (σ.aj+1+1) σ'.aj eb n cl bs) (ev:=.sl eb 0 n .opn) (hGG.e.keep (q:=λ_=>True) (λb hq=>hF3.old b hq.2) λ_ _=>trivial) (hDD.keep (λb hq=>hF3.old b hq.2.1) λ_ h=>h) ⟨jb,λj hj=>by have:=(hI.d.2 j hj).1;omega⟩ jb (λj hj=>?_) _ _ _ l0 l1 l2).mono ?_
       .have hj':j<n:=jb
        rw[wI m cl al hj']
        have:=(hI.c j hj').1
        show(cl j).length<=1000
        omega
       .rintro _ σ4 ⟨⟨rv,d,rfl,hr,hd1,hd2,hd3⟩,hf4⟩
        have oW:=hF3.trans hf4
        have axo:=hF.trans oW
        have hb4:=oW.get hF.wf hb
        have xM:=oW.le
        simp(disch:=try exact jz) only[go_sem,z3,t10,t11,t139,ai1,t141,aI hb4]
        refine⟨nd-(k+1),jb,k+1,rv,dl++[d],rfl,jb,rfl,oW.get hF.wf q0,hI.dbt oW jb (hr.keep (λ_ _=>rfl) λb9 h9=>h9.imp id λh9=>⟨by have h8:σ'.aj+1<=b9:=h9.1;omega,h9.2⟩) ⟨hd1,_,hd2⟩ hd3 ?_ ?_ jp ?_⟩
        .rw[aA]
        .intro b9 h9 h8
         rw[ak _ _ _ _ jb]
        .exact fr
      .simp(disch:=try exact jz) only[go_sem,z3,t10,t11,t139,ai1,t141]
       exact⟨nd-(k+1),jb,k+1,II,dl,rfl,jb,rfl,q0,hI.step (by have hFr:=Fr.refl hF.wf;exact fr)⟩
     .simp(disch:=try exact jz) only[go_sem,z3,am]
      exact⟨II,dl,t10,t11,q0,hI⟩
    .rintro _ tm σ' ⟨rfl,II,dl,t10,t11,q0,hI⟩
     have hF:=hI.fr
     have hb:=hI.b
     have hnx:=hI.nx
     have hDk:=hI.g.d.kn
     simp(disch:=try exact jz) only[go_sem,z3,t10,t11,au hb,hDk,aI q0]
     refine⟨eb,II,m,cl,bs,A,al,dl,rfl,⟨?_,?_,hI.m,hI.c,hI.a,hI.d,hI.nx,hI.lo,?_,hI.dg⟩⟩
     .rw[ak _ _ _ _ jb];exact hb
     .exact hI.g.mono (λb9 h9 h8=>ak _ _ _ _ jb) jp
     .exact fr
end Go.Proofs.Xe
