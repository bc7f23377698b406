import Derived.Test.YtchhojplceoifaaGreatDoorYe28
set_option linter.all false
set_option maxHeartbeats 8000000
namespace Go.Proofs.Xe
open Go.RowKit Go.Proofs.Ins
def FI(n i:Nat)(x:C5):Prop:=(x.h=-1\/∃j:Nat,j<n/\j≠i/\x.h=(j:Int))/\(∃r:Nat,r<=7/\x.r=(r:Int))/\∃v,x.a=vY (amt v)
def IK(nc:Nat)(al:List iI):Prop:=al.length<=2/\∀j,j<al.length->(ix al j).length=3/\∀t,t<3->FH nc (al.take j) (ix (ix al j) t)/\(ix (ix al j) t).length<=nc+1
section
variable {h h' : Tr Bk} {dv:B} {n eb:Nat} {m:Nat→Rat} {cl:Nat→List C5} {bs:Nat→Nat} {A:Nat→B} {al:Nat→List iI} {dl:List yB} {lo hi:Nat}
def as2{i nx:Nat}(hi:i<n)(x:C5):yH (bV n (uj m cl bs A)) (i*5+3) [.sl nx 0 ((cl i).length+1) .opn]=some (bV n (uj m (aN cl i (cl i++[x])) (aN bs i nx) A)):=by
 rw[AV (e:=5) (λ_=>rfl) hi kc];show some _=some _;congr 1;refine dB λj hj=>?_;unfold jk;by_cases e:j=i
 .subst e;rw[ab rfl];unfold uj;rw[aP,aP,jh (l:=cl j++[x]) kc,aD];rfl
 .rw[ae e];unfold uj;rw[aQ _ _ _ _ e,aQ _ _ _ _ e]
def anG{i:Nat}{rv:B}(hi:i<n):yH (bV n (uj m cl bs A)) (i*5+4) [rv]=some (bV n (uj m cl bs (aN A i rv))):=by
 rw[AV (e:=5) (λ_=>rfl) hi kc];show some _=some _;congr 1;refine dB λj hj=>?_;unfold jk;by_cases e:j=i
 .subst e;rw[ab rfl];unfold uj;rw[aP];rfl
 .rw[ae e];unfold uj;rw[aQ _ _ _ _ e]
def uV.push(ho:uV h dv n eb m cl bs A al dl lo hi){i nx:Nat}(hi':i<n)(x:C5)(hnx:hi<=nx){hi2:Nat}(h2:nx<hi2)(he:h' eb=some ⟨bV n (uj m (aN cl i (cl i++[x])) (aN bs i nx) A),some (5,60)⟩)
  (hx:h' nx=some ⟨bV (cl i).length (clC (cl i))++c5B x,some (5,84)⟩) (hb:∀b,lo<=b->b<hi->b≠eb->(0<(cl i).length->b≠bs i)->h' b=h b):uV h' dv n eb m (aN cl i (cl i++[x])) (aN bs i nx) A al dl lo hi2:=by
 have hq:∀b,Qt lo hi eb n cl bs b->Qt lo hi2 eb n (aN cl i (cl i++[x])) (aN bs i nx) b:=λb q=>⟨q.1,by have:=q.2.1;omega,q.2.2.1,λj hj hp=>by
  by_cases e:j=i
  .subst e;rw[aP];have:=q.2.1;omega
  .rw[aQ _ _ _ _ e]at hp⊢;exact q.2.2.2 j hj hp⟩
 have hk:∀b,Qt lo hi eb n cl bs b->h' b=h b:=λb q=>hb b q.1 q.2.1 q.2.2.1 λhp=>q.2.2.2 i hi' hp
 have hlo:=ho.elo
 have hhi:=ho.ehi
 refine⟨he,ho.elo,jb,λj hj hp=>?_,λa b ha hb' pa pb e=>?_,λj hj=>(ho.a j hj).keep hk hq,ho.d.keep hk hq⟩
 .by_cases e:j=i
  .subst e
   rw[aP,aP,aD,cj]
   refine⟨?_,jb,h2,jb⟩
   rw[hx,kM]
   congr 2
   refine dB λk hk=>?_
   unfold jk clC
   split
   .next e=>rw[e,gZ]
   .rw[gY _ _ jb]
  .rw[aQ _ _ _ _ e]at hp⊢
   rw[aQ _ _ _ _ e]
   obtain⟨k1,k2,k3,k4⟩:=ho.c j hj hp
   exact⟨by rw[hb _ k2 k3 k4 λhp2 e2=>e (ho.inj j i hj hi' hp hp2 e2)];exact k1,k2,jb,k4⟩
 .by_cases e1:a=i
  .by_cases e2:b=i
   .rw[e1,e2]
   .rw[e1,aP,aQ _ _ _ _ e2]at e
    rw[aQ _ _ _ _ e2]at pb
    have:=(ho.c b hb' pb).2.2.1
    omega
  .by_cases e2:b=i
   .rw[e2,aP,aQ _ _ _ _ e1]at e
    rw[aQ _ _ _ _ e1]at pa
    have:=(ho.c a ha pa).2.2.1
    omega
   .rw[aQ _ _ _ _ e1]at pa
    rw[aQ _ _ _ _ e2]at pb
    rw[aQ _ _ _ _ e1,aQ _ _ _ _ e2]at e
    exact ho.inj a b ha hb' pa pb e
def uV.ayn(ho:uV h dv n eb m cl bs A al dl lo hi){i:Nat}(hi':i<n){rv:B}{l:List iI}{hi2:Nat}(h2:hi<=hi2)(he:h' eb=some ⟨bV n (uj m cl bs (aN A i rv)),some (5,60)⟩)
  (hb:∀b,lo<=b->b<hi->b≠eb->h' b=h b) (hr:jq (Qt lo hi2 eb n cl bs) h' rv l):uV h' dv n eb m cl bs (aN A i rv) (aN al i l) dl lo hi2:=by
 have hq:∀b,Qt lo hi eb n cl bs b->Qt lo hi2 eb n cl bs b:=λb q=>⟨q.1,by have:=q.2.1;omega,q.2.2⟩
 have hk:∀b,Qt lo hi eb n cl bs b->h' b=h b:=λb q=>hb b q.1 q.2.1 q.2.2.1
 refine⟨he,ho.elo,by have:=ho.ehi;omega,λj hj hp=>?_,ho.inj,λj hj=>?_,ho.d.keep hk hq⟩
 .obtain⟨k1,k2,k3,k4⟩:=ho.c j hj hp
  exact⟨by rw[hb _ k2 k3 k4];exact k1,k2,jb,k4⟩
 .by_cases e:j=i
  .subst e;rw[aP,aP];exact hr
  .rw[aQ _ _ _ _ e,aQ _ _ _ _ e];exact(ho.a j hj).keep hk hq
def uV.ayo(ho:uV h dv n eb m cl bs A al dl lo hi){Yo:B}{l:List yB}{hi2:Nat}(h2:hi<=hi2)(hb:∀b,lo<=b->b<hi->h' b=h b)(hr:kN (Qt lo hi2 eb n cl bs) h' Yo l):uV h' Yo n eb m cl bs A al l lo hi2:=by have:=ho.mono hb h2;exact⟨this.e,this.elo,this.ehi,this.c,this.inj,this.a,hr⟩
def jq.none(p:Nat->Prop)(h:Tr Bk):jq p h .aX []:=⟨λ_=>.aX,.inl ⟨rfl,rfl⟩,λi hi=>by simp at hi⟩
def kN.none(p:Nat->Prop)(h:Tr Bk):kN p h .aX []:=⟨λ_=>.aX,.inl ⟨rfl,rfl⟩,λi hi=>by simp at hi⟩
def uV.start(he:h eb=some ⟨bV n (uj m (λ_=>[]) (λ_=>0) (λ_=>.aX)),some (5,60)⟩)(h1:lo<=eb)(h2:eb<hi):uV h .aX n eb m (λ_=>[]) (λ_=>0) (λ_=>.aX) (λ_=>[]) [] lo hi:=
 ⟨he,h1,h2,λi _ hp=>by simp at hp,λi j _ _ hp=>by simp at hp,λ_ _=>jq.none _ _,kN.none _ _⟩
def anH(l:List C5):(bV l.length (clC l)).take (l.length*5)=bV l.length (clC l):=Ag λ_=>rfl
def as3(l:List C5):l.length*5<=(bV l.length (clC l)).length:=by rw[qU (e:=5) λ_=>rfl];exact jp
def FI.snoc{i:Nat}{l:List C5}{x:C5}(hl:∀k,k<l.length->FI n i (ix l k))(hx:FI n i x):∀k,k<(l++[x]).length->FI n i (ix (l++[x]) k):=λk hk=>by
 rw[aD,cj]at hk;by_cases e:k=l.length
 .rw[e,gZ];exact hx
 .rw[gY _ _ jb];exact hl k jb
end
structure GI(σ σ':St)(t11 n eb:Nat)(dv:B)(mm:Nat->Rat)(cl:Nat->List C5)(bs:Nat->Nat)(A:Nat->B)(al:Nat->List iI)(dl:List yB):Prop where
 b:σ'.h t11=some ⟨[.sl eb 0 n .opn,dv],none⟩
 g:uV σ'.h dv n eb mm cl bs A al dl (t11+1) σ'.aj
 m:∀i,i<n->∃v,mm i=amt v
 c:∀i,i<n->(cl i).length<=6/\∀k,k<(cl i).length->FI n i (ix (cl i) k)
 a:∀i,i<n->IK (cl i).length (al i)
 d:dl.length<=3/\∀j,j<dl.length->(ix dl j).l.length<=4/\∃v,(ix dl j).w=vY (amt v)
 nx:t11+1<=σ'.aj
 lo:σ.aj<=t11
 fr:Fr σ σ'
 dg:∀j,j<dl.length->LGf (jJ n mm cl al) (dl.take j) (ix dl j).l
def GI.step{σ σ' σ3:St}{t11 n eb:Nat}{dv:B}{m:Nat->Rat}{cl:Nat->List C5}{bs:Nat->Nat}{A:Nat->B}{al:Nat->List iI}{dl:List yB}(hI:GI σ σ' t11 n eb dv m cl bs A al dl)(hf:Fr σ' σ3):GI σ σ3 t11 n eb dv m cl bs A al dl:=by have hn:=hI.nx;have hle:=hf.le;exact⟨by rw[hf.old _ jb];exact hI.b,hI.g.mono (λb _ hb=>hf.old b hb) hle,hI.m,hI.c,hI.a,hI.d,jb,hI.lo,hI.fr.trans hf,hI.dg⟩
def GI.push{σ σ':St}{t11 n eb:Nat}{dv:B}{m:Nat->Rat}{cl:Nat->List C5}{bs:Nat->Nat}(hI:GI σ σ' t11 n eb dv m cl bs (λ_=>.aX) (λ_=>[]) []){i nx n':Nat}{x:C5}{h':Tr Bk}(hi:i<n)(hl:(cl i).length<=5)(hx:FI n i x)(hb:h' t11=some ⟨[.sl eb 0 n .opn,dv],none⟩)
  (he:h' eb=some ⟨bV n (uj m (aN cl i (cl i++[x])) (aN bs i nx) (λ_=>.aX)),some (5,60)⟩) (hc:h' nx=some ⟨bV (cl i).length (clC (cl i))++c5B x,some (5,84)⟩)
  (ho:∀b,t11+1<=b->b<σ'.aj->b≠eb->(0<(cl i).length->b≠bs i)->h' b=σ'.h b) (hn:σ'.aj<=nx) (hn':nx<n') (hf:Fr σ ⟨h',n'⟩):GI σ ⟨h',n'⟩ t11 n eb dv m (aN cl i (cl i++[x])) (aN bs i nx) (λ_=>.aX) (λ_=>[]) []:=by
 have hn0:=hI.nx
 refine⟨hb,hI.g.push hi x hn hn' he hc ho,hI.m,λj hj=>?_,λj hj=>⟨bp _,λk hk=>by simp at hk⟩,hI.d,by show _<=n';omega,hI.lo,hf,λj hj=>by simp at hj⟩
 by_cases e:j=i
 .subst e
  rw[aP,aD,cj]
  refine⟨jb,λk hk=>?_⟩
  exact FI.snoc (hI.c j hj).2 hx k (by rw[aD,cj];exact hk)
 .rw[aQ _ _ _ _ e];exact hI.c j hj
def IK.len{nc:Nat}{al:List iI}(h:IK nc al)(hn:nc<=10):asi al:=⟨by have:=h.1;omega,λj hj=>by obtain⟨h1,h2⟩:=h.2 j hj;exact⟨jb,λt ht=>by have:=(h2 t jb).2;omega⟩⟩
def IK.snoc{nc:Nat}{al:List iI}{a:iI}(h:IK nc al)(h1:al.length<=1)(ha:a.length=3)(hg:∀t,t<3->FH nc al (ix a t)/\(ix a t).length<=nc+1):IK nc (al++[a]):=by
 refine⟨by simp;omega,λj hj=>?_⟩;rw[aD,cj]at hj;by_cases e:j=al.length
 .subst e;rw[gZ,List.take_left']
  .exact⟨ha,hg⟩
  .rfl
 .rw[gY _ _ jb,ik jb];exact h.2 j jb
def GI.agr{σ σ' σ3:St}{t11 n eb:Nat}{dv:B}{m:Nat->Rat}{cl:Nat->List C5}{bs:Nat->Nat}{A:Nat->B}{al:Nat->List iI}{dl:List yB}(hI:GI σ σ' t11 n eb dv m cl bs A al dl)(hf3:Fr σ' σ3)(h0:dl=[]){i n':Nat}{rv:B}{a:iI}{h':Tr Bk}(hi:i<n)(h1:(al i).length<=1)
  (hr:jq (λb=>Qt (t11+1) σ'.aj eb n cl bs b\/σ'.aj<=b/\b<σ3.aj) σ3.h rv (al i++[a])) (ha:a.length=3) (hg:∀t,t<3->FH (cl i).length (al i) (ix a t)/\(ix a t).length<=(cl i).length+1)
  (hb:h' t11=some ⟨[.sl eb 0 n .opn,dv],none⟩) (he:h' eb=some ⟨bV n (uj m cl bs (aN A i rv)),some (5,60)⟩) (ho:∀b,t11+1<=b->b<σ3.aj->b≠eb->h' b=σ3.h b) (hn:σ3.aj<=n') (hf:Fr σ ⟨h',n'⟩):GI σ ⟨h',n'⟩ t11 n eb dv m cl bs (aN A i rv) (aN al i (al i++[a])) dl:=by
 have hn0:=hI.nx
 have hle:=hf3.le
 have as4:=hI.g.ehi
 refine⟨hb,(hI.g.mono (λb _ hb=>hf3.old b hb) hle).ayn hi hn he (λb b1 b2 b3=>ho b b1 b2 b3) (hr.keep (λb hq=>?_) λb hq=>?_),hI.m,hI.c,λj hj=>?_,hI.d,by show _<=n';omega,hI.lo,hf,λj hj=>by rw[h0]at hj;simp at hj⟩
 .rcases hq with hq|hq
  .exact ho b hq.1 (by have:=hq.2.1;omega) hq.2.2.1
  .exact ho b jb hq.2 jb
 .rcases hq with hq|hq
  .exact⟨hq.1,show b<n' by have:=hq.2.1;omega,hq.2.2⟩
  .obtain⟨h8,h9⟩:=hq
   exact⟨jb,show b<n' by omega,jb,λj hj hp=>by have:=(hI.g.c j hj hp).2.2.1;omega⟩
 .by_cases e:j=i
  .subst e;rw[aP];exact(hI.a j hj).snoc h1 ha hg
  .rw[aQ _ _ _ _ e];exact hI.a j hj
def GI.dbt{σ σ' σ3:St}{t11 n eb:Nat}{dv:B}{m:Nat->Rat}{cl:Nat->List C5}{bs:Nat->Nat}{A:Nat->B}{al:Nat->List iI}{dl:List yB}(hI:GI σ σ' t11 n eb dv m cl bs A al dl)(hf3:Fr σ' σ3){n':Nat}{rv:B}{d:yB}{h':Tr Bk}(h1:dl.length<=2)
  (hr:kN (λb=>Qt (t11+1) σ'.aj eb n cl bs b\/σ'.aj<=b/\b<σ3.aj) σ3.h rv (dl++[d])) (hd:d.l.length<=4/\∃v,d.w=vY (amt v)) (hdg:LGf (jJ n m cl al) dl d.l)
  (hb:h' t11=some ⟨[.sl eb 0 n .opn,rv],none⟩) (ho:∀b,t11+1<=b->b<σ3.aj->h' b=σ3.h b) (hn:σ3.aj<=n') (hf:Fr σ ⟨h',n'⟩):GI σ ⟨h',n'⟩ t11 n eb rv m cl bs A al (dl++[d]):=by
 have hn0:=hI.nx
 have hle:=hf3.le
 have as4:=hI.g.ehi
 refine⟨hb,(hI.g.mono (λb _ hb=>hf3.old b hb) hle).ayo hn (λb b1 b2=>ho b b1 b2) (hr.keep (λb hq=>?_) λb hq=>?_),hI.m,hI.c,hI.a,⟨by simp;omega,λj hj=>?_⟩,by show _<=n';omega,hI.lo,hf,λj hj=>?_⟩
 .rcases hq with hq|hq
  .exact ho b hq.1 (by have:=hq.2.1;omega)
  .exact ho b jb hq.2
 .rcases hq with hq|hq
  .exact⟨hq.1,show b<n' by have:=hq.2.1;omega,hq.2.2⟩
  .obtain⟨h8,h9⟩:=hq
   exact⟨jb,show b<n' by omega,jb,λj hj hp=>by have:=(hI.g.c j hj hp).2.2.1;omega⟩
 .rw[aD,cj]at hj
  by_cases e:j=dl.length
  .rw[e,gZ];exact hd
  .rw[gY _ _ jb];exact hI.d.2 j jb
 .rw[aD,cj]at hj
  by_cases e:j=dl.length
  .rw[e,gZ,List.take_left' rfl];exact hdg
  .rw[gY _ _ jb,ik jb];exact hI.dg j jb
def Yp:amt 0=0:=by rw[abO jj];show((0:Int):Rat)/((1:Int):Rat)=0;grind
structure G0(σ σ':St)(t11 i:Nat)(ev:B)(m:Nat->Rat):Prop where
 b:σ'.h t11=some ⟨[ev,.aX],none⟩
 e:(i=0/\ev=.aX)\/∃eb,ev=.sl eb 0 i .opn/\0<i/\σ'.h eb=some ⟨bV i (uj m (λ_=>[]) (λ_=>0) (λ_=>.aX)),some (5,60)⟩/\t11+1<=eb/\eb<σ'.aj
 m:∀j,j<i->∃v,m j=amt v
 nx:t11+1<=σ'.aj
 fr:Fr σ σ'
def ajE(i:Nat)(m:Nat->Rat)(cl:Nat->List C5)(bs:Nat->Nat)(A:Nat->B):(bV i (uj m cl bs A)).take (i*5)=bV i (uj m cl bs A):=Ag λ_=>rfl
def anI(i:Nat)(m:Nat->Rat)(cl:Nat->List C5)(bs:Nat->Nat)(A:Nat->B):i*5<=(bV i (uj m cl bs A)).length:=by rw[qU (e:=5) λ_=>rfl];exact jp
def G0.push{σ σ':St}{t11 i:Nat}{ev:B}{m:Nat->Rat}(hG:G0 σ σ' t11 i ev m){q:Rat}(hq:∃v,q=amt v){h':Tr Bk}{nx n':Nat}(hb:h' t11=some ⟨[.sl nx 0 (i+1) .opn,.aX],none⟩)
  (hx:h' nx=some ⟨bV i (uj m (λ_=>[]) (λ_=>0) (λ_=>.aX))++[.bool (rn q),.str (rs q),.str (rd q),.aX,.aX],some (5,60)⟩) (hn:σ'.aj<=nx) (hn':nx<n') (hf:Fr σ ⟨h',n'⟩):G0 σ ⟨h',n'⟩ t11 (i+1) (.sl nx 0 (i+1) .opn) (aN m i q):=by
 have hn0:=hG.nx
 refine⟨hb,.inr ⟨nx,rfl,jb,?_,jb,hn'⟩,λj hj=>?_,by show _<=n';omega,hf⟩
 .show h' nx=_
  rw[hx,kM]
  congr 2
  refine dB λj hj=>?_
  unfold jk uj
  by_cases e:j=i
  .rw[ab e,e,aP];rfl
  .rw[ae e,aQ _ _ _ _ e]
 .unfold aN
  split
  .exact hq
  .exact hG.m j jb
set_option maxRecDepth 10000 in
def anJ{σ:St}(hW:WF σ){nm Yq nl np nd:Nat}(hnm:nm<=255){cv lv pv dv:B}(M:Nat->Nat)(L P D:Nat->Nat->Nat)(hcv:HL σ.h 1 cv Yq λi=>[.int .u16 (.ofNat (M i))])(hM:∀i,i<Yq->M i<=65535)
  (hlv:HL σ.h 4 lv nl λi=>[.int .u16 (.ofNat (L i 0)),.int .u16 (.ofNat (L i 1)),.int .u16 (.ofNat (L i 2)),.int .u16 (.ofNat (L i 3))]) (hL:∀i j,i<nl->L i j<=65535) (hnl:nl<=9223372036854775806)
  (hpv:HL σ.h 3 pv np λi=>[.int .u16 (.ofNat (P i 0)),.int .u16 (.ofNat (P i 1)),.int .u16 (.ofNat (P i 2))]) (hP:∀i j,i<np->P i j<=65535) (hnp:np<=9223372036854775806)
  (hdv:HL σ.h 3 dv nd λi=>[.int .u16 (.ofNat (D i 0)),.int .u16 (.ofNat (D i 1)),.int .u16 (.ofNat (D i 2))]) (hD:∀i j,i<nd->D i j<=65535) (hnd:nd<=9223372036854775806):
  aC EN 10 [.c (.int .u8 (.ofNat nm)),.c cv,.c lv,.c pv,.c dv] σ λr σ'=>∃eb Yo m cl bs A al dl,r=.agg [.sl eb 0 (1+nm%4) .opn,Yo]/\GI σ σ' (σ.aj+1) (1+nm%4) eb Yo m cl bs A al dl:=by
 refine aO (FZ.o _ _) FZ.h ?_
 unfold FZ
 dsimp only
 simp(disch:=try exact jz) only[go_sem,z3]
 have hs1:1<=1+nm%4:=jb
 have hs4:1+nm%4<=4:=jb
 generalize 1+nm%4=n at*
 refine bK.mono (Q:=λe tm σ'=>e=.exit 0/\∃ev m,Tr.ah tm 2=.c lv/\Tr.ah tm 3=.c pv/\Tr.ah tm 4=.c dv/\Tr.ah tm 10=.c (.ptr σ.aj 0)/\Tr.ah tm 11=.c (.ptr (σ.aj+1) 0)/\Tr.ah tm 12=.c (.int .i64 (.ofNat n))/\σ'.h σ.aj=some ⟨[.aX,.aX],none⟩/\G0 σ σ' (σ.aj+1) n ev m)
  (aF (λq tm σ'=>∃i ev m,q=n-i/\i<=n/\Tr.ah tm 1=.c cv/\Tr.ah tm 2=.c lv/\Tr.ah tm 3=.c pv/\Tr.ah tm 4=.c dv/\Tr.ah tm 10=.c (.ptr σ.aj 0)/\Tr.ah tm 11=.c (.ptr (σ.aj+1) 0)/\Tr.ah tm 12=.c (.int .i64 (.ofNat n))/\Tr.ah tm 13=.c (.int .i64 (.ofNat i))
   /\σ'.h σ.aj=some ⟨[.aX,.aX],none⟩/\G0 σ σ' (σ.aj+1) i ev m) n ?_ ?_) ?_
 .refine⟨0,.aX,λ_=>0,jb,jb,?_⟩
  simp(disch:=try exact jz) only[go_sem,z3,am]
  refine⟨?_,.inl ⟨rfl,rfl⟩,λj hj=>jb,?_,?_⟩
  .rw[aA]
  .show σ.aj+1+1<=σ.aj+1+1;omega
  .exact fr
 .rintro q tm σ' ⟨i,ev,m,rfl,hi,t1,t2,t3,t4,t10,t11,t12,t13,q0,hG⟩
  have hF:=hG.fr
  have hle:=hF.le
  have hnx:=hG.nx
  have hb:=hG.b
  have hlen:=hcv.len
  simp(disch:=try exact jz) only[go_sem,z3,t1,t2,t3,t4,t10,t11,t12,t13,aG]
  refine aH (λhlt=>?_) (λhlt=>?_)
  .simp(disch:=try exact jz) only[go_sem,z3,t1,t2,t3,t4,t10,t11,t12,t13,hlen,aG]
   have hel:=anI i m (λ_=>[]) (λ_=>0) (λ_=>.aX)
   have het:=ajE i m (λ_=>[]) (λ_=>0) (λ_=>.aX)
   refine aH (λhc=>?_) (λhc=>?_)
   .obtain⟨b,o,c,rfl,hld⟩:=hcv.one jb
    have hld:=hF.ld hW (hld i hc)
    have hbl:=hF.wf.dF hld
    have hMi:=hM i hc
    rcases hG.e with⟨rfl,rfl⟩|⟨eb,rfl,hi0,k1,k2,k3⟩
    .simp(disch:=try exact jz) only[go_sem,z3,t1,t2,t3,t4,t10,t11,t12,t13,hld,ak hb,hb]
     refine⟨n-(1),jb,1,_,aN m 0 (amt (M 0)),rfl,jb,rfl,q0,hG.push (nx:=σ'.aj+1+1) ⟨_,rfl⟩ ?_ ?_ ?_ ?_ ?_⟩
     .rw[aA]
     .rw[au _ _ _ _ jb,aA]<;>rfl
     .omega
     .omega
     .exact fr
    .simp(disch:=try exact jz) only[go_sem,z3,t1,t2,t3,t4,t10,t11,t12,t13,hld,ak hb,hb,k1,het]
     refine⟨n-(i+1),jb,i+1,_,aN m i (amt (M i)),rfl,jb,rfl,q0,hG.push (nx:=σ'.aj+1+1) ⟨_,rfl⟩ ?_ ?_ ?_ ?_ ?_⟩
     .rw[aA]
     .rw[au _ _ _ _ jb,aA]<;>rfl
     .omega
     .omega
     .exact fr
   .rcases hG.e with⟨rfl,rfl⟩|⟨eb,rfl,hi0,k1,k2,k3⟩
    .simp(disch:=try exact jz) only[go_sem,z3,t1,t2,t3,t4,t10,t11,t12,t13,ak hb,hb]
     refine⟨n-(1),jb,1,_,aN m 0 (0),rfl,jb,rfl,q0,hG.push (nx:=σ'.aj+1+1) ⟨0,Yp.symm⟩ ?_ ?_ ?_ ?_ ?_⟩
     .rw[aA]
     .rw[au _ _ _ _ jb,aA]<;>rfl
     .omega
     .omega
     .exact fr
    .simp(disch:=try exact jz) only[go_sem,z3,t1,t2,t3,t4,t10,t11,t12,t13,ak hb,hb,k1,het]
     refine⟨n-(i+1),jb,i+1,_,aN m i (0),rfl,jb,rfl,q0,hG.push (nx:=σ'.aj+1+1) ⟨0,Yp.symm⟩ ?_ ?_ ?_ ?_ ?_⟩
     .rw[aA]
     .rw[au _ _ _ _ jb,aA]<;>rfl
     .omega
     .omega
     .exact fr
  .have:i=n:=jb
   subst this
   simp(disch:=try exact jz) only[go_sem,z3,t1,am]
   exact⟨ev,m,t2,t3,t4,t10,t11,t12,q0,hG⟩
 .rintro _ tm σ' ⟨rfl,ev,m,t2,t3,t4,t10,t11,t12,q0,hG⟩
  have hlenL:=hlv.len
  obtain⟨eb,rfl,hn0,k1,k2,k3⟩:=hG.e.resolve_left jb
  have hG1:GI σ σ' (σ.aj+1) n eb .aX m (λ_=>[]) (λ_=>0) (λ_=>.aX) (λ_=>[]) []:=
   ⟨hG.b,uV.start k1 k2 k3,hG.m,λi hi=>⟨bp _,λk hk=>by simp at hk⟩,λi hi=>⟨bp _,λj hj=>by simp at hj⟩,⟨bp _,λj hj=>by simp at hj⟩,hG.nx,jb,hG.fr,λj hj=>by simp at hj⟩
  simp(disch:=try exact jz) only[go_sem,z3,t2,hlenL]
  refine bK.mono (Q:=λe tm σ'=>e=.exit 2/\∃cl bs,Tr.ah tm 3=.c pv/\Tr.ah tm 4=.c dv/\Tr.ah tm 10=.c (.ptr σ.aj 0)/\Tr.ah tm 11=.c (.ptr (σ.aj+1) 0)/\Tr.ah tm 12=.c (.int .i64 (.ofNat n))/\σ'.h σ.aj=some ⟨[.aX,.aX],none⟩/\GI σ σ' (σ.aj+1) n eb .aX m cl bs (λ_=>.aX) (λ_=>[]) [])
   (aF (λq tm σ'=>∃k cl bs,q=nl-k/\k<=nl/\Tr.ah tm 3=.c pv/\Tr.ah tm 4=.c dv/\Tr.ah tm 10=.c (.ptr σ.aj 0)/\Tr.ah tm 11=.c (.ptr (σ.aj+1) 0)/\Tr.ah tm 12=.c (.int .i64 (.ofNat n))/\Tr.ah tm 51=.c lv/\Tr.ah tm 52=.c (.int .i64 (.ofNat nl))/\Tr.ah tm 53=.c (.int .i64 (.ofNat k))/\σ'.h σ.aj=some ⟨[.aX,.aX],none⟩/\GI σ σ' (σ.aj+1) n eb .aX m cl bs (λ_=>.aX) (λ_=>[]) []) nl ?_ ?_) ?_
  .refine⟨0,λ_=>[],λ_=>0,jb,jb,?_⟩
   simp(disch:=try exact jz) only[go_sem,z3,t2,t3,t4,t10,t11,t12,am]
   exact⟨q0,hG1⟩
  .rintro q tm σ' ⟨k,cl,bs,rfl,hk,t3,t4,t10,t11,t12,t51,t52,t53,q0,hI⟩
   have hF:=hI.fr
   have hle:=hF.le
   have hnx:=hI.nx
   have hb:=hI.b
   have ayp:=hI.g.elo
   have as4:=hI.g.ehi
   have heE:=hI.g.e
   simp(disch:=try exact jz) only[go_sem,z3,t3,t4,t10,t11,t12,t51,t52,t53,aG]
   refine aH (λhlt=>?_) (λhlt=>?_)
   .obtain⟨b,o,c,rfl,hld⟩:=hlv.pos jb
    have hld:=hF.ld hW (hld k hlt)
    have l0:=hL k 0 hlt
    have l1:=hL k 1 hlt
    have l2:=hL k 2 hlt
    have l3:=hL k 3 hlt
    have hm0:L k 0%n<n:=df _ jb
    have hlC:=hI.g.ldC hm0
    have hc6:=(hI.c _ hm0).1
    generalize hx:L k 0%n=i at*
    have hfl:=Iz (cl i) (bs i)
    have hfk:=rM (cl i) (bs i)
    have hge:∀a b:Nat,decide (Int.ofNat a<=Int.ofNat b)=decide (a<=b):=λa b=>by simp
    simp(disch:=try exact jz) only[go_sem,z3,t3,t4,t10,t11,t12,t51,t52,t53,hld,hx,ak hb,hlC,hfl,hge]
    refine aH (λh6=>?_) (λh6=>?_)
    .simp(disch:=try exact jz) only[go_sem,z3,t3,t4,t10,t11,t12,t51,t52,t53]
     exact⟨nl-(k+1),jb,k+1,cl,bs,rfl,jb,rfl,q0,hI.step (by have hFr:=Fr.refl hF.wf;exact fr)⟩
    .have hct:=anH (cl i)
     have hcn:=as3 (cl i)
     have hn1:0<n+1:=jb
     have hgood:∀hv:Int,(hv=-1\/∃j:Nat,j<n/\j≠i/\hv=(j:Int))->FI n i ⟨hv,.ofNat (L k 2%3),vY (amt (L k 3))⟩:=λhv h=>⟨h,⟨L k 2%3,jb,rfl⟩,_,rfl⟩
     have hwC:=λx=>as2 (m:=m) (cl:=cl) (bs:=bs) (A:=λ_=>.aX) (nx:=σ'.aj+1+1) hm0 x
     simp(disch:=try exact jz) only[go_sem,z3,t3,t4,t10,t11,t12,t51,t52,t53]
     refine WZ (λhq=>?_) (λhq=>?_)
     .have hw:=hwC ⟨-1,.ofNat (L k 2%3),vY (amt (L k 3))⟩
      by_cases hz:(cl i).length=0
      .have he:lC (cl i) (bs i)=.aX:=by unfold lC;rw[ab hz]
       rw[hz]at hw
       simp(disch:=try exact jz) only[go_sem,z3,t3,t4,t10,t11,t12,t51,t52,t53,hx,ak hb,hlC,he,aI heE,heE,hw,hq]
       refine⟨nl-(k+1),jb,k+1,aN cl i (cl i++[⟨-1,.ofNat (L k 2%3),vY (amt (L k 3))⟩]),aN bs i (σ'.aj+1+1),rfl,jb,rfl,q0,hI.push hm0 jb (hgood _ (.inl rfl)) ?_ ?_ ?_ ?_ ?_ ?_ ?_⟩
       .simp(disch:=omega) only[au,iH];exact hb
       .rw[aA]
       .rw[au _ _ _ _ jb,aA,hz];rfl
       .intro b9 h9 h8 h7 h6;simp(disch:=first|assumption|omega) only[au,iH]
       .omega
       .omega
       .exact fr
      .have he:=jh (l:=cl i) jb (bs i)
       obtain⟨c1,c2,c3,c4⟩:=hI.g.c i hm0 jb
       simp(disch:=try exact jz) only[go_sem,z3,t3,t4,t10,t11,t12,t51,t52,t53,hx,ak hb,hlC,he,c1,hct,aI heE,heE,hw,hq]
       refine⟨nl-(k+1),jb,k+1,aN cl i (cl i++[⟨-1,.ofNat (L k 2%3),vY (amt (L k 3))⟩]),aN bs i (σ'.aj+1+1),rfl,jb,rfl,q0,hI.push hm0 jb (hgood _ (.inl rfl)) ?_ ?_ ?_ ?_ ?_ ?_ ?_⟩
       .simp(disch:=omega) only[au,iH];exact hb
       .rw[aA]
       .rw[au _ _ _ _ jb,aA];rfl
       .intro b9 h9 h8 h7 h6;have h6:=h6 jb;simp(disch:=first|assumption|omega) only[au,iH]
       .omega
       .omega
       .exact fr
     .simp(disch:=try exact jz) only[go_sem,z3,t3,t4,t10,t11,t12,t51,t52,t53,hq,hge]
      refine aH (λhq2=>?_) (λhq2=>?_)
      .have hw:=hwC ⟨-1,.ofNat (L k 2%3),vY (amt (L k 3))⟩
       by_cases hz:(cl i).length=0
       .have he:lC (cl i) (bs i)=.aX:=by unfold lC;rw[ab hz]
        rw[hz]at hw
        simp(disch:=try exact jz) only[go_sem,z3,t3,t4,t10,t11,t12,t51,t52,t53,hx,ak hb,hlC,he,aI heE,heE,hw]
        refine⟨nl-(k+1),jb,k+1,aN cl i (cl i++[⟨-1,.ofNat (L k 2%3),vY (amt (L k 3))⟩]),aN bs i (σ'.aj+1+1),rfl,jb,rfl,q0,hI.push hm0 jb (hgood _ (.inl rfl)) ?_ ?_ ?_ ?_ ?_ ?_ ?_⟩
        .simp(disch:=omega) only[au,iH];exact hb
        .rw[aA]
        .rw[au _ _ _ _ jb,aA,hz];rfl
        .intro b9 h9 h8 h7 h6;simp(disch:=first|assumption|omega) only[au,iH]
        .omega
        .omega
        .exact fr
       .have he:=jh (l:=cl i) jb (bs i)
        obtain⟨c1,c2,c3,c4⟩:=hI.g.c i hm0 jb
        simp(disch:=try exact jz) only[go_sem,z3,t3,t4,t10,t11,t12,t51,t52,t53,hx,ak hb,hlC,he,c1,hct,aI heE,heE,hw]
        refine⟨nl-(k+1),jb,k+1,aN cl i (cl i++[⟨-1,.ofNat (L k 2%3),vY (amt (L k 3))⟩]),aN bs i (σ'.aj+1+1),rfl,jb,rfl,q0,hI.push hm0 jb (hgood _ (.inl rfl)) ?_ ?_ ?_ ?_ ?_ ?_ ?_⟩
        .simp(disch:=omega) only[au,iH];exact hb
        .rw[aA]
        .rw[au _ _ _ _ jb,aA];rfl
        .intro b9 h9 h8 h7 h6;have h6:=h6 jb;simp(disch:=first|assumption|omega) only[au,iH]
        .omega
        .omega
        .exact fr
      .have hw:=hwC ⟨.ofNat (L k 1%(n+1)),.ofNat (L k 2%3),vY (amt (L k 3))⟩
       by_cases hz:(cl i).length=0
       .have he:lC (cl i) (bs i)=.aX:=by unfold lC;rw[ab hz]
        rw[hz]at hw
        simp(disch:=try exact jz) only[go_sem,z3,t3,t4,t10,t11,t12,t51,t52,t53,hx,ak hb,hlC,he,aI heE,heE,hw]
        refine⟨nl-(k+1),jb,k+1,aN cl i (cl i++[⟨.ofNat (L k 1%(n+1)),.ofNat (L k 2%3),vY (amt (L k 3))⟩]),aN bs i (σ'.aj+1+1),rfl,jb,rfl,q0,hI.push hm0 jb (hgood _ (.inr ⟨_,jb,hq,rfl⟩)) ?_ ?_ ?_ ?_ ?_ ?_ ?_⟩
        .simp(disch:=omega) only[au,iH];exact hb
        .rw[aA]
        .rw[au _ _ _ _ jb,aA,hz];rfl
        .intro b9 h9 h8 h7 h6;simp(disch:=first|assumption|omega) only[au,iH]
        .omega
        .omega
        .exact fr
       .have he:=jh (l:=cl i) jb (bs i)
        obtain⟨c1,c2,c3,c4⟩:=hI.g.c i hm0 jb
        simp(disch:=try exact jz) only[go_sem,z3,t3,t4,t10,t11,t12,t51,t52,t53,hx,ak hb,hlC,he,c1,hct,aI heE,heE,hw]
        refine⟨nl-(k+1),jb,k+1,aN cl i (cl i++[⟨.ofNat (L k 1%(n+1)),.ofNat (L k 2%3),vY (amt (L k 3))⟩]),aN bs i (σ'.aj+1+1),rfl,jb,rfl,q0,hI.push hm0 jb (hgood _ (.inr ⟨_,jb,hq,rfl⟩)) ?_ ?_ ?_ ?_ ?_ ?_ ?_⟩
        .simp(disch:=omega) only[au,iH];exact hb
        .rw[aA]
        .rw[au _ _ _ _ jb,aA];rfl
        .intro b9 h9 h8 h7 h6;have h6:=h6 jb;simp(disch:=first|assumption|omega) only[au,iH]
        .omega
        .omega
        .exact fr
   .have:k=nl:=jb
    simp(disch:=try exact jz) only[go_sem,z3,am]
    exact⟨cl,bs,t3,t4,t10,t11,t12,q0,hI⟩
  .rintro _ tm σ' ⟨rfl,cl,bs,t3,t4,t10,t11,t12,q0,hI⟩
   have OE:=hpv.len
   simp(disch:=try exact jz) only[go_sem,z3,t3,OE]
   refine bK.mono (Q:=λe tm σ'=>e=.exit 4/\∃A al,Tr.ah tm 4=.c dv/\Tr.ah tm 10=.c (.ptr σ.aj 0)/\Tr.ah tm 11=.c (.ptr (σ.aj+1) 0)/\σ'.h σ.aj=some ⟨[.aX,.aX],none⟩/\GI σ σ' (σ.aj+1) n eb .aX m cl bs A al [])
    (aF (λq tm σ'=>∃k A al,q=np-k/\k<=np/\Tr.ah tm 4=.c dv/\Tr.ah tm 10=.c (.ptr σ.aj 0)/\Tr.ah tm 11=.c (.ptr (σ.aj+1) 0)/\Tr.ah tm 12=.c (.int .i64 (.ofNat n))/\Tr.ah tm 107=.c pv/\Tr.ah tm 108=.c (.int .i64 (.ofNat np))/\Tr.ah tm 109=.c (.int .i64 (.ofNat k))/\σ'.h σ.aj=some ⟨[.aX,.aX],none⟩/\GI σ σ' (σ.aj+1) n eb .aX m cl bs A al []) np ?_ ?_) ?_
   .refine⟨0,λ_=>.aX,λ_=>[],jb,jb,?_⟩
    simp(disch:=try exact jz) only[go_sem,z3,t3,t4,t10,t11,t12,am]
    exact⟨q0,hI⟩
   .rintro q tm σ' ⟨k,A,al,rfl,hk,t4,t10,t11,t12,t107,Vt,t109,q0,hI⟩
    have hF:=hI.fr
    have hle:=hF.le
    have hnx:=hI.nx
    have hb:=hI.b
    have ayp:=hI.g.elo
    have as4:=hI.g.ehi
    have heE:=hI.g.e
    simp(disch:=try exact jz) only[go_sem,z3,t4,t10,t11,t12,t107,Vt,t109,aG]
    refine aH (λhlt=>?_) (λhlt=>?_)
    .obtain⟨b,o,c,rfl,hld⟩:=hpv.pos jb
     have hld:=hF.ld hW (hld k hlt)
     have l0:=hP k 0 hlt
     have l1:=hP k 1 hlt
     have l2:=hP k 2 hlt
     have hm0:P k 0%n<n:=df _ jb
     have hlA:=hI.g.ldA hm0
     have Yf:=hI.g.ldE hm0
     rw[cP]at Yf
     unfold uj at Yf
     have hc6:=(hI.c _ hm0).1
     have hgA:=hI.a _ hm0
     have hAa:=hI.g.a _ hm0
     generalize hx:P k 0%n=i at*
     have hAl:=hAa.choose_spec.1.len
     have hAk:=hAa.kn
     have hfl:=Iz (cl i) (bs i)
     have hfk:=rM (cl i) (bs i)
     simp(disch:=try exact jz) only[go_sem,z3,t4,t10,t11,t12,t107,Vt,t109,hld,hx,ak hb,hlA,hAl,aG]
     refine aH (λh2=>?_) (λh2=>?_)
     .simp(disch:=try exact jz) only[go_sem,z3,t4,t10,t11,t12,t107,Vt,t109,hld,hx,ak hb,Yf,hfk,hAk,aG]
      refine aC.st (Fr σ') (by have hFr:=Fr.refl hF.wf;exact fr) λhF3=>?_
      refine(anj hF3.wf (al i) (hAa.keep (λb hq=>hF3.old b hq.2.1) λ_ h=>h) (hgA.len jb) (cl i).length hfl jb rfl rfl rfl hfk _ _ _ l0 l1 l2).mono ?_
      rintro _ σ4 ⟨⟨rv,a,rfl,hr,ha,hg⟩,hf4⟩
      have nX:=hF3.trans hf4
      have aa5:=hF.trans nX
      have hb4:=nX.get hF.wf hb
      have ayq:=nX.get hF.wf heE
      have uo:=nX.le
      have ayr:=nX.ld hF.wf Yf
      have ays:=hf4.get hF3.wf (aA _ _ _)
      have hw:=anG (m:=m) (cl:=cl) (bs:=bs) (A:=A) (rv:=rv) hm0
      simp(disch:=try exact jz) only[go_sem,z3,t4,t10,t11,t12,t107,Vt,t109,ak hb4,hb4,ayr,ays,hfk,hAk,aI ayq,hw]
      refine⟨np-(k+1),jb,k+1,aN A i rv,aN al i (al i++[a]),rfl,jb,rfl,nX.get hF.wf q0,hI.agr nX rfl hm0 jb (hr.keep (λ_ _=>rfl) λb9 h9=>h9.imp id λh9=>⟨by have h8:σ'.aj+1<=b9:=h9.1;omega,h9.2⟩) ha hg ?_ ?_ ?_ jp ?_⟩
      .rw[au _ _ _ _ jb];exact hb4
      .rw[aA]
      .intro b9 h9 h8 h7
       rw[au _ _ _ _ h7]
      .exact fr
     .simp(disch:=try exact jz) only[go_sem,z3,t4,t10,t11,t12,t107,Vt,t109]
      exact⟨np-(k+1),jb,k+1,A,al,rfl,jb,rfl,q0,hI.step (by have hFr:=Fr.refl hF.wf;exact fr)⟩
    .simp(disch:=try exact jz) only[go_sem,z3,am]
     exact⟨A,al,t4,t10,t11,q0,hI⟩
   .rintro _ tm σ' ⟨rfl,A,al,t4,t10,t11,q0,hI⟩
    have hlenD:=hdv.len
    simp(disch:=try exact jz) only[go_sem,z3,t4,hlenD]
    refine bK.mono (Q:=λe tm σ'=>e=.exit 6/\∃Yo dl,Tr.ah tm 10=.c (.ptr σ.aj 0)/\Tr.ah tm 11=.c (.ptr (σ.aj+1) 0)/\σ'.h σ.aj=some ⟨[.aX,.aX],none⟩/\GI σ σ' (σ.aj+1) n eb Yo m cl bs A al dl)
     (aF (λq tm σ'=>∃k Yo dl,q=nd-k/\k<=nd/\Tr.ah tm 10=.c (.ptr σ.aj 0)/\Tr.ah tm 11=.c (.ptr (σ.aj+1) 0)/\Tr.ah tm 139=.c dv/\Tr.ah tm 140=.c (.int .i64 (.ofNat nd))/\Tr.ah tm 141=.c (.int .i64 (.ofNat k))/\σ'.h σ.aj=some ⟨[.aX,.aX],none⟩/\GI σ σ' (σ.aj+1) n eb Yo m cl bs A al dl) nd ?_ ?_) ?_
    .refine⟨0,.aX,[],jb,jb,?_⟩
     simp(disch:=try exact jz) only[go_sem,z3,t4,t10,t11,am]
     exact⟨q0,hI⟩
    .rintro q tm σ' ⟨k,Yo,dl,rfl,hk,t10,t11,t139,ajF,t141,q0,hI⟩
     have hF:=hI.fr
     have hle:=hF.le
     have hnx:=hI.nx
     have hb:=hI.b
     have hDD:=hI.g.d
     have hDl:=hDD.choose_spec.1.len
     have hDk:=hDD.kn
     have hGG:=hI.g.grp .opn
     have hd3:=hI.d.1
     simp(disch:=try exact jz) only[go_sem,z3,t10,t11,t139,ajF,t141,aG]
     refine aH (λhlt=>?_) (λhlt=>?_)
     .obtain⟨b,o,c,rfl,hld⟩:=hdv.pos jb
      have hld:=hF.ld hW (hld k hlt)
      have l0:=hD k 0 hlt
      have l1:=hD k 1 hlt
      have l2:=hD k 2 hlt
      simp(disch:=try exact jz) only[go_sem,z3,t10,t11,t139,ajF,t141,hld,ak hb,hDk,hDl,aG]
      refine aH (λh2=>?_) (λh2=>?_)
      .simp(disch:=try exact jz) only[go_sem,z3,t10,t11,t139,ajF,t141,hld,ak hb,hDk,hDl,aG]
       refine aC.st (Fr σ') (by have hFr:=Fr.refl hF.wf;exact fr) λhF3=>?_
       have hEl:(jJ n m cl al).length=n:=ql ..
       refine(av2 hF3.wf (jJ n m cl al) dl (p:=Qt (σ.aj+1+1) σ'.aj eb n cl bs) (ev:=.sl eb 0 n .opn) (hGG.e.keep (q:=λ_=>True) (λb hq=>hF3.old b hq.2) λ_ _=>trivial) (hDD.keep (λb hq=>hF3.old b hq.2.1) λ_ h=>h) ⟨jb,λj hj=>by have:=(hI.d.2 j hj).1;omega⟩ jb (λj hj=>?_) _ _ _ l0 l1 l2).mono ?_
       .have hj':j<n:=jb
        rw[wZ m cl al hj']
        have:=(hI.c j hj').1
        show(cl j).length<=1000
        omega
       .rintro _ σ4 ⟨⟨rv,d,rfl,hr,hd1,hd2,hd3⟩,hf4⟩
        have nX:=hF3.trans hf4
        have aa5:=hF.trans nX
        have hb4:=nX.get hF.wf hb
        have uo:=nX.le
        simp(disch:=try exact jz) only[go_sem,z3,t10,t11,t139,ajF,t141,aI hb4]
        refine⟨nd-(k+1),jb,k+1,rv,dl++[d],rfl,jb,rfl,nX.get hF.wf q0,hI.dbt nX jb (hr.keep (λ_ _=>rfl) λb9 h9=>h9.imp id λh9=>⟨by have h8:σ'.aj+1<=b9:=h9.1;omega,h9.2⟩) ⟨hd1,_,hd2⟩ hd3 ?_ ?_ jp ?_⟩
        .rw[aA]
        .intro b9 h9 h8
         rw[au _ _ _ _ jb]
        .exact fr
      .simp(disch:=try exact jz) only[go_sem,z3,t10,t11,t139,ajF,t141]
       exact⟨nd-(k+1),jb,k+1,Yo,dl,rfl,jb,rfl,q0,hI.step (by have hFr:=Fr.refl hF.wf;exact fr)⟩
     .simp(disch:=try exact jz) only[go_sem,z3,am]
      exact⟨Yo,dl,t10,t11,q0,hI⟩
    .rintro _ tm σ' ⟨rfl,Yo,dl,t10,t11,q0,hI⟩
     have hF:=hI.fr
     have hb:=hI.b
     have hnx:=hI.nx
     have hDk:=hI.g.d.kn
     simp(disch:=try exact jz) only[go_sem,z3,t10,t11,ak hb,hDk,aI q0]
     refine⟨eb,Yo,m,cl,bs,A,al,dl,rfl,⟨?_,?_,hI.m,hI.c,hI.a,hI.d,hI.nx,hI.lo,?_,hI.dg⟩⟩
     .rw[au _ _ _ _ jb];exact hb
     .exact hI.g.mono (λb9 h9 h8=>au _ _ _ _ jb) jp
     .exact fr
end Go.Proofs.Xe
