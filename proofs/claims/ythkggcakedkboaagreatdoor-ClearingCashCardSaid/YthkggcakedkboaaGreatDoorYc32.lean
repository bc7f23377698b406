import Derived.Test.YthkggcakedkboaaGreatDoorYc30
set_option linter.all false
namespace Go.Proofs.Xe
open Go.RowKit Go.Proofs.Ins
def EW(n i:Nat)(x:C5):Prop:=(x.h=-1\/∃j:Nat,j<n/\j≠i/\x.h=(j:Int))/\(∃r:Nat,r<=7/\x.r=(r:Int))/\∃v,x.a=oK (amt v)
def Ii(nc:Nat)(al:List gB):Prop:=al.length<=2/\∀j,j<al.length->(ix al j).length=3/\∀t,t<3->EU nc (al.take j) (ix (ix al j) t)/\(ix (ix al j) t).length<=nc+1
section
variable {h h' : Tr Bk} {dv:B} {n eb:Nat} {m:Nat→Rat} {cl:Nat→List C5} {bs:Nat→Nat} {A:Nat→B} {al:Nat→List gB} {dl:List tX} {lo hi:Nat}
def arJ{i nx:Nat}(hi:i<n)(x:C5):xC (bD n (nJ m cl bs A)) (i*5+3) [.sl nx 0 ((cl i).length+1) .opn]=some (bD n (nJ m (aK cl i (cl i++[x])) (aK bs i nx) A)):=by
 rw[yD (e:=5) (λ_=>rfl) hi kc];show some _=some _;congr 1;refine bP λj hj=>?_;unfold iZ;by_cases e:j=i
 .subst e;rw[ab rfl];unfold nJ;rw[aN,aN,iT (l:=cl j++[x]) kc,aD];rfl
 .rw[ae e];unfold nJ;rw[aP _ _ _ _ e,aP _ _ _ _ e]
def amN{i:Nat}{rv:B}(hi:i<n):xC (bD n (nJ m cl bs A)) (i*5+4) [rv]=some (bD n (nJ m cl bs (aK A i rv))):=by
 rw[yD (e:=5) (λ_=>rfl) hi kc];show some _=some _;congr 1;refine bP λj hj=>?_;unfold iZ;by_cases e:j=i
 .subst e;rw[ab rfl];unfold nJ;rw[aN];rfl
 .rw[ae e];unfold nJ;rw[aP _ _ _ _ e]
def oD.push(ho:oD h dv n eb m cl bs A al dl lo hi){i nx:Nat}(hi':i<n)(x:C5)(hnx:hi<=nx){hi2:Nat}(h2:nx<hi2)(he:h' eb=some ⟨bD n (nJ m (aK cl i (cl i++[x])) (aK bs i nx) A),some (5,52)⟩)
  (hx:h' nx=some ⟨bD (cl i).length (clC (cl i))++c5B x,some (5,55)⟩) (hb:∀b,lo<=b->b<hi->b≠eb->(0<(cl i).length->b≠bs i)->h' b=h b):oD h' dv n eb m (aK cl i (cl i++[x])) (aK bs i nx) A al dl lo hi2:=by
 have hq:∀b,Qt lo hi eb n cl bs b->Qt lo hi2 eb n (aK cl i (cl i++[x])) (aK bs i nx) b:=λb q=>⟨q.1,by have:=q.2.1;omega,q.2.2.1,λj hj hp=>by
  by_cases e:j=i
  .subst e;rw[aN];have:=q.2.1;omega
  .rw[aP _ _ _ _ e]at hp⊢;exact q.2.2.2 j hj hp⟩
 have hk:∀b,Qt lo hi eb n cl bs b->h' b=h b:=λb q=>hb b q.1 q.2.1 q.2.2.1 λhp=>q.2.2.2 i hi' hp
 have hlo:=ho.elo
 have hhi:=ho.ehi
 refine⟨he,ho.elo,jb,λj hj hp=>?_,λa b ha hb' pa pb e=>?_,λj hj=>(ho.a j hj).keep hk hq,ho.d.keep hk hq⟩
 .by_cases e:j=i
  .subst e
   rw[aN,aN,aD,bR]
   refine⟨?_,jb,h2,jb⟩
   rw[hx,lV]
   congr 2
   refine bP λk hk=>?_
   unfold iZ clC
   split
   .next e=>rw[e,gJ]
   .rw[gI _ _ jb]
  .rw[aP _ _ _ _ e]at hp⊢
   rw[aP _ _ _ _ e]
   obtain⟨k1,k2,k3,k4⟩:=ho.c j hj hp
   exact⟨by rw[hb _ k2 k3 k4 λhp2 e2=>e (ho.inj j i hj hi' hp hp2 e2)];exact k1,k2,jb,k4⟩
 .by_cases e1:a=i
  .by_cases e2:b=i
   .rw[e1,e2]
   .rw[e1,aN,aP _ _ _ _ e2]at e
    rw[aP _ _ _ _ e2]at pb
    have:=(ho.c b hb' pb).2.2.1
    omega
  .by_cases e2:b=i
   .rw[e2,aN,aP _ _ _ _ e1]at e
    rw[aP _ _ _ _ e1]at pa
    have:=(ho.c a ha pa).2.2.1
    omega
   .rw[aP _ _ _ _ e1]at pa
    rw[aP _ _ _ _ e2]at pb
    rw[aP _ _ _ _ e1,aP _ _ _ _ e2]at e
    exact ho.inj a b ha hb' pa pb e
def oD.axb(ho:oD h dv n eb m cl bs A al dl lo hi){i:Nat}(hi':i<n){rv:B}{l:List gB}{hi2:Nat}(h2:hi<=hi2)(he:h' eb=some ⟨bD n (nJ m cl bs (aK A i rv)),some (5,52)⟩)
  (hb:∀b,lo<=b->b<hi->b≠eb->h' b=h b) (hr:je (Qt lo hi2 eb n cl bs) h' rv l):oD h' dv n eb m cl bs (aK A i rv) (aK al i l) dl lo hi2:=by
 have hq:∀b,Qt lo hi eb n cl bs b->Qt lo hi2 eb n cl bs b:=λb q=>⟨q.1,by have:=q.2.1;omega,q.2.2⟩
 have hk:∀b,Qt lo hi eb n cl bs b->h' b=h b:=λb q=>hb b q.1 q.2.1 q.2.2.1
 refine⟨he,ho.elo,by have:=ho.ehi;omega,λj hj hp=>?_,ho.inj,λj hj=>?_,ho.d.keep hk hq⟩
 .obtain⟨k1,k2,k3,k4⟩:=ho.c j hj hp
  exact⟨by rw[hb _ k2 k3 k4];exact k1,k2,jb,k4⟩
 .by_cases e:j=i
  .subst e;rw[aN,aN];exact hr
  .rw[aP _ _ _ _ e,aP _ _ _ _ e];exact(ho.a j hj).keep hk hq
def oD.axc(ho:oD h dv n eb m cl bs A al dl lo hi){UG:B}{l:List tX}{hi2:Nat}(h2:hi<=hi2)(hb:∀b,lo<=b->b<hi->h' b=h b)(hr:kD (Qt lo hi2 eb n cl bs) h' UG l):oD h' UG n eb m cl bs A al l lo hi2:=by have:=ho.mono hb h2;exact⟨this.e,this.elo,this.ehi,this.c,this.inj,this.a,hr⟩
def je.none(p:Nat->Prop)(h:Tr Bk):je p h .aW []:=⟨λ_=>.aW,.inl ⟨rfl,rfl⟩,λi hi=>by simp at hi⟩
def kD.none(p:Nat->Prop)(h:Tr Bk):kD p h .aW []:=⟨λ_=>.aW,.inl ⟨rfl,rfl⟩,λi hi=>by simp at hi⟩
def oD.start(he:h eb=some ⟨bD n (nJ m (λ_=>[]) (λ_=>0) (λ_=>.aW)),some (5,52)⟩)(h1:lo<=eb)(h2:eb<hi):oD h .aW n eb m (λ_=>[]) (λ_=>0) (λ_=>.aW) (λ_=>[]) [] lo hi:=
 ⟨he,h1,h2,λi _ hp=>by simp at hp,λi j _ _ hp=>by simp at hp,λ_ _=>je.none _ _,kD.none _ _⟩
def amO(l:List C5):(bD l.length (clC l)).take (l.length*5)=bD l.length (clC l):=zk λ_=>rfl
def arK(l:List C5):l.length*5<=(bD l.length (clC l)).length:=by rw[qA (e:=5) λ_=>rfl];exact jp
def EW.snoc{i:Nat}{l:List C5}{x:C5}(hl:∀k,k<l.length->EW n i (ix l k))(hx:EW n i x):∀k,k<(l++[x]).length->EW n i (ix (l++[x]) k):=λk hk=>by
 rw[aD,bR]at hk;by_cases e:k=l.length
 .rw[e,gJ];exact hx
 .rw[gI _ _ jb];exact hl k jb
end
structure GI(σ σ':St)(t11 n eb:Nat)(dv:B)(mm:Nat->Rat)(cl:Nat->List C5)(bs:Nat->Nat)(A:Nat->B)(al:Nat->List gB)(dl:List tX):Prop where
 b:σ'.h t11=some ⟨[.sl eb 0 n .opn,dv],none⟩
 g:oD σ'.h dv n eb mm cl bs A al dl (t11+1) σ'.aj
 m:∀i,i<n->∃v,mm i=amt v
 c:∀i,i<n->(cl i).length<=6/\∀k,k<(cl i).length->EW n i (ix (cl i) k)
 a:∀i,i<n->Ii (cl i).length (al i)
 d:dl.length<=3/\∀j,j<dl.length->(ix dl j).l.length<=4/\∃v,(ix dl j).w=oK (amt v)
 nx:t11+1<=σ'.aj
 lo:σ.aj<=t11
 fr:Fr σ σ'
 dg:∀j,j<dl.length->LGf (fK n mm cl al) (dl.take j) (ix dl j).l
def GI.step{σ σ' σ3:St}{t11 n eb:Nat}{dv:B}{m:Nat->Rat}{cl:Nat->List C5}{bs:Nat->Nat}{A:Nat->B}{al:Nat->List gB}{dl:List tX}(hI:GI σ σ' t11 n eb dv m cl bs A al dl)(hf:Fr σ' σ3):GI σ σ3 t11 n eb dv m cl bs A al dl:=by have hn:=hI.nx;have hle:=hf.le;exact⟨by rw[hf.old _ jb];exact hI.b,hI.g.mono (λb _ hb=>hf.old b hb) hle,hI.m,hI.c,hI.a,hI.d,jb,hI.lo,hI.fr.trans hf,hI.dg⟩
def GI.push{σ σ':St}{t11 n eb:Nat}{dv:B}{m:Nat->Rat}{cl:Nat->List C5}{bs:Nat->Nat}(hI:GI σ σ' t11 n eb dv m cl bs (λ_=>.aW) (λ_=>[]) []){i nx n':Nat}{x:C5}{h':Tr Bk}(hi:i<n)(hl:(cl i).length<=5)(hx:EW n i x)(hb:h' t11=some ⟨[.sl eb 0 n .opn,dv],none⟩)
  (he:h' eb=some ⟨bD n (nJ m (aK cl i (cl i++[x])) (aK bs i nx) (λ_=>.aW)),some (5,52)⟩) (hc:h' nx=some ⟨bD (cl i).length (clC (cl i))++c5B x,some (5,55)⟩)
  (ho:∀b,t11+1<=b->b<σ'.aj->b≠eb->(0<(cl i).length->b≠bs i)->h' b=σ'.h b) (hn:σ'.aj<=nx) (hn':nx<n') (hf:Fr σ ⟨h',n'⟩):GI σ ⟨h',n'⟩ t11 n eb dv m (aK cl i (cl i++[x])) (aK bs i nx) (λ_=>.aW) (λ_=>[]) []:=by
 have hn0:=hI.nx
 refine⟨hb,hI.g.push hi x hn hn' he hc ho,hI.m,λj hj=>?_,λj hj=>⟨bp _,λk hk=>by simp at hk⟩,hI.d,by show _<=n';omega,hI.lo,hf,λj hj=>by simp at hj⟩
 by_cases e:j=i
 .subst e
  rw[aN,aD,bR]
  refine⟨jb,λk hk=>?_⟩
  exact EW.snoc (hI.c j hj).2 hx k (by rw[aD,bR];exact hk)
 .rw[aP _ _ _ _ e];exact hI.c j hj
def Ii.len{nc:Nat}{al:List gB}(h:Ii nc al)(hn:nc<=10):aq3 al:=⟨by have:=h.1;omega,λj hj=>by obtain⟨h1,h2⟩:=h.2 j hj;exact⟨jb,λt ht=>by have:=(h2 t jb).2;omega⟩⟩
def Ii.snoc{nc:Nat}{al:List gB}{a:gB}(h:Ii nc al)(h1:al.length<=1)(ha:a.length=3)(hg:∀t,t<3->EU nc al (ix a t)/\(ix a t).length<=nc+1):Ii nc (al++[a]):=by
 refine⟨by simp;omega,λj hj=>?_⟩;rw[aD,bR]at hj;by_cases e:j=al.length
 .subst e;rw[gJ,List.take_left']
  .exact⟨ha,hg⟩
  .rfl
 .rw[gI _ _ jb,gN jb];exact h.2 j jb
def GI.agr{σ σ' σ3:St}{t11 n eb:Nat}{dv:B}{m:Nat->Rat}{cl:Nat->List C5}{bs:Nat->Nat}{A:Nat->B}{al:Nat->List gB}{dl:List tX}(hI:GI σ σ' t11 n eb dv m cl bs A al dl)(hf3:Fr σ' σ3)(h0:dl=[]){i n':Nat}{rv:B}{a:gB}{h':Tr Bk}(hi:i<n)(h1:(al i).length<=1)
  (hr:je (λb=>Qt (t11+1) σ'.aj eb n cl bs b\/σ'.aj<=b/\b<σ3.aj) σ3.h rv (al i++[a])) (ha:a.length=3) (hg:∀t,t<3->EU (cl i).length (al i) (ix a t)/\(ix a t).length<=(cl i).length+1)
  (hb:h' t11=some ⟨[.sl eb 0 n .opn,dv],none⟩) (he:h' eb=some ⟨bD n (nJ m cl bs (aK A i rv)),some (5,52)⟩) (ho:∀b,t11+1<=b->b<σ3.aj->b≠eb->h' b=σ3.h b) (hn:σ3.aj<=n') (hf:Fr σ ⟨h',n'⟩):GI σ ⟨h',n'⟩ t11 n eb dv m cl bs (aK A i rv) (aK al i (al i++[a])) dl:=by
 have hn0:=hI.nx
 have hle:=hf3.le
 have amP:=hI.g.ehi
 refine⟨hb,(hI.g.mono (λb _ hb=>hf3.old b hb) hle).axb hi hn he (λb b1 b2 b3=>ho b b1 b2 b3) (hr.keep (λb hq=>?_) λb hq=>?_),hI.m,hI.c,λj hj=>?_,hI.d,by show _<=n';omega,hI.lo,hf,λj hj=>by rw[h0]at hj;simp at hj⟩
 .rcases hq with hq|hq
  .exact ho b hq.1 (by have:=hq.2.1;omega) hq.2.2.1
  .exact ho b jb hq.2 jb
 .rcases hq with hq|hq
  .exact⟨hq.1,show b<n' by have:=hq.2.1;omega,hq.2.2⟩
  .obtain⟨h8,h9⟩:=hq
   exact⟨jb,show b<n' by omega,jb,λj hj hp=>by have:=(hI.g.c j hj hp).2.2.1;omega⟩
 .by_cases e:j=i
  .subst e;rw[aN];exact(hI.a j hj).snoc h1 ha hg
  .rw[aP _ _ _ _ e];exact hI.a j hj
def GI.dbt{σ σ' σ3:St}{t11 n eb:Nat}{dv:B}{m:Nat->Rat}{cl:Nat->List C5}{bs:Nat->Nat}{A:Nat->B}{al:Nat->List gB}{dl:List tX}(hI:GI σ σ' t11 n eb dv m cl bs A al dl)(hf3:Fr σ' σ3){n':Nat}{rv:B}{d:tX}{h':Tr Bk}(h1:dl.length<=2)
  (hr:kD (λb=>Qt (t11+1) σ'.aj eb n cl bs b\/σ'.aj<=b/\b<σ3.aj) σ3.h rv (dl++[d])) (hd:d.l.length<=4/\∃v,d.w=oK (amt v)) (hdg:LGf (fK n m cl al) dl d.l)
  (hb:h' t11=some ⟨[.sl eb 0 n .opn,rv],none⟩) (ho:∀b,t11+1<=b->b<σ3.aj->h' b=σ3.h b) (hn:σ3.aj<=n') (hf:Fr σ ⟨h',n'⟩):GI σ ⟨h',n'⟩ t11 n eb rv m cl bs A al (dl++[d]):=by
 have hn0:=hI.nx
 have hle:=hf3.le
 have amP:=hI.g.ehi
 refine⟨hb,(hI.g.mono (λb _ hb=>hf3.old b hb) hle).axc hn (λb b1 b2=>ho b b1 b2) (hr.keep (λb hq=>?_) λb hq=>?_),hI.m,hI.c,hI.a,⟨by simp;omega,λj hj=>?_⟩,by show _<=n';omega,hI.lo,hf,λj hj=>?_⟩
 .rcases hq with hq|hq
  .exact ho b hq.1 (by have:=hq.2.1;omega)
  .exact ho b jb hq.2
 .rcases hq with hq|hq
  .exact⟨hq.1,show b<n' by have:=hq.2.1;omega,hq.2.2⟩
  .obtain⟨h8,h9⟩:=hq
   exact⟨jb,show b<n' by omega,jb,λj hj hp=>by have:=(hI.g.c j hj hp).2.2.1;omega⟩
 .rw[aD,bR]at hj
  by_cases e:j=dl.length
  .rw[e,gJ];exact hd
  .rw[gI _ _ jb];exact hI.d.2 j jb
 .rw[aD,bR]at hj
  by_cases e:j=dl.length
  .rw[e,gJ,List.take_left' rfl];exact hdg
  .rw[gI _ _ jb,gN jb];exact hI.dg j jb
def XI:amt 0=0:=by rw[aa3 jj];show((0:Int):Rat)/((1:Int):Rat)=0;grind
structure G0(σ σ':St)(t11 i:Nat)(ev:B)(m:Nat->Rat):Prop where
 b:σ'.h t11=some ⟨[ev,.aW],none⟩
 e:(i=0/\ev=.aW)\/∃eb,ev=.sl eb 0 i .opn/\0<i/\σ'.h eb=some ⟨bD i (nJ m (λ_=>[]) (λ_=>0) (λ_=>.aW)),some (5,52)⟩/\t11+1<=eb/\eb<σ'.aj
 m:∀j,j<i->∃v,m j=amt v
 nx:t11+1<=σ'.aj
 fr:Fr σ σ'
def aiO(i:Nat)(m:Nat->Rat)(cl:Nat->List C5)(bs:Nat->Nat)(A:Nat->B):(bD i (nJ m cl bs A)).take (i*5)=bD i (nJ m cl bs A):=zk λ_=>rfl
def amQ(i:Nat)(m:Nat->Rat)(cl:Nat->List C5)(bs:Nat->Nat)(A:Nat->B):i*5<=(bD i (nJ m cl bs A)).length:=by rw[qA (e:=5) λ_=>rfl];exact jp
def G0.push{σ σ':St}{t11 i:Nat}{ev:B}{m:Nat->Rat}(hG:G0 σ σ' t11 i ev m){q:Rat}(hq:∃v,q=amt v){h':Tr Bk}{nx n':Nat}(hb:h' t11=some ⟨[.sl nx 0 (i+1) .opn,.aW],none⟩)
  (hx:h' nx=some ⟨bD i (nJ m (λ_=>[]) (λ_=>0) (λ_=>.aW))++[.bool (rn q),.str (rs q),.str (rd q),.aW,.aW],some (5,52)⟩) (hn:σ'.aj<=nx) (hn':nx<n') (hf:Fr σ ⟨h',n'⟩):G0 σ ⟨h',n'⟩ t11 (i+1) (.sl nx 0 (i+1) .opn) (aK m i q):=by
 have hn0:=hG.nx
 refine⟨hb,.inr ⟨nx,rfl,jb,?_,jb,hn'⟩,λj hj=>?_,by show _<=n';omega,hf⟩
 .show h' nx=_
  rw[hx,lV]
  congr 2
  refine bP λj hj=>?_
  unfold iZ nJ
  by_cases e:j=i
  .rw[ab e,e,aN];rfl
  .rw[ae e,aP _ _ _ _ e]
 .unfold aK
  split
  .exact hq
  .exact hG.m j jb
def aiP{a d:Nat}(hd:1<=d)(h6:d<=6)(ha:a<=30):∃k:Nat,k<=1800/\((a:Int):Rat)/((d:Int):Rat)=((k:Int):Rat)/((60:Nat):Rat):=by
 have key:∀p q:Int,q*p=60->((a:Int):Rat)/(p:Rat)=((a:Int):Rat)*(q:Rat)/60:=λp q h=>by
  have h2:(q:Rat)*(p:Rat)=60:=by rw[<-cR,h];rfl
  have h3:(p:Rat)≠0:=λe=>by rw[e,Rat.mul_zero]at h2;exact absurd h2 jj
  grind
 refine⟨a*(60/d),cB ha (fq 60 d),?_⟩;have e60:((60:Nat):Rat)=60:=rfl;have e1:((a*(60/d):Nat):Int)=(a:Int)*((60/d:Nat):Int):=et ..;rw[e60,e1,cR];refine key _ _ ?_;have:d=1\/d=2\/d=3\/d=4\/d=5\/d=6:=jb;rcases this with rfl|rfl|rfl|rfl|rfl|rfl<;>rfl
def OB{a:Nat}(ha:a<=30):∃k:Nat,k<=1800/\((a:Int):Rat)=((k:Int):Rat)/((60:Nat):Rat):=by obtain⟨k,h2,h3⟩:=aiP (a:=a) (d:=1) jj jj ha;refine⟨k,h2,?_⟩;rw[<-h3];have e:(((1:Nat):Int):Rat)=1:=rfl;rw[e];grind
def arL(x:Nat):∃k:Nat,k<=1800/\amt x=((k:Int):Rat)/((60:Nat):Rat):=by
 by_cases h0:x%5=0
 .rw[aa3 h0];exact aiP jb jb jb
 .by_cases h1:x%5=1
  .rw[afP h1];exact OB jb
  .rw[afQ h0 h1];exact OB jb
abbrev mO(A:Nat)(U:Rat)(q:Rat):Prop:=dU A q/\0<=q/\q<=U
def aiQ{A:Nat}{U:Rat}(hU:0<=U):Pq (mO A U) where
 min:=λa b ha hb=>by unfold jV;split<;>assumption
 sub:=λa b ha hb=>by
  have h1:=ha.2;have h2:=hb.2;unfold jV;split
  .rw[show a-a=0 by grind];exact⟨dU.zero A,be,hU⟩
  .exact⟨ha.1.sub hb.1,by grind,by grind⟩
 zero:=⟨dU.zero A,be,hU⟩
def aiR{q:Rat}(h:∃k:Nat,k<=1800/\q=((k:Int):Rat)/((60:Nat):Rat)):mO 60 30 q:=by obtain⟨k,hk,e⟩:=h;refine⟨⟨k,e⟩,?_⟩;have e60:((60:Nat):Rat)=60:=rfl;have h1:(0:Rat)<=((k:Int):Rat):=Rat.intCast_nonneg.mpr (Int.natCast_nonneg k);have h2:((k:Int):Rat)<=((1800:Int):Rat):=fS.mpr jb;have e3:((1800:Int):Rat)=1800:=rfl;rw[e60]at e;rw[e3]at h2;constructor<;>grind
theorem vO(x:Nat):mO 60 30 (amt x):=aiR (arL x)
def zL{q:Rat}(h:0<=q):¬sg q<0:=by
 rcases qg q with⟨h1,h2⟩|⟨h1,h2⟩|⟨h1,h2⟩
 .exfalso;grind
 .rw[h1];decide
 .rw[h1];decide
def axd{k a b:Nat}(h:k<=256^a)(hab:a<=b):k<=256^b:=aw h (bA jj hab)
def axe:(30:Rat)<=uQ:=by
 have h:((30:Nat):Rat)<=uQ:=by unfold uQ;exact br.mpr (axd (a:=1) (b:=900) jj jj)
 exact h
def mO.up{A:Nat}{q:Rat}(h:mO A 30 q):Ib A q:=⟨h.1,h.2.1,cH h.2.2 axe⟩
structure BG(n:Nat)(m:Nat->Rat)(cl:Nat->List C5)(al:Nat->List gB)(dl:List tX):Prop where
 n0:0<n
 n4:n<=4
 mm:∀i,i<n->∃v,m i=amt v
 c:∀i,i<n->(cl i).length<=6/\∀k,k<(cl i).length->EW n i (ix (cl i) k)
 a:∀i,i<n->Ii (cl i).length (al i)
 d:dl.length<=3/\∀j,j<dl.length->(ix dl j).l.length<=4/\∃v,(ix dl j).w=oK (amt v)
 dg:∀j,j<dl.length->LGf (fK n m cl al) (dl.take j) (ix dl j).l
def aiS{al:List gB}{k:Nat}{c:Int}(h:Xd (al.take k) c):yU al k c=false:=by unfold yU;rw[List.any_eq_false];intro a ha hm;obtain⟨j,hj,rfl⟩:=aM ha;rw[<-eY hj]at hm;obtain⟨t,ht,hm⟩:=alC.mp hm;obtain⟨p,hp,e⟩:=alB.mp hm;exact h j hj t ht p hp e
def aat{nc:Nat}{al:List gB}{k:Nat}{x:yQ}(h:QN nc (al.take k) x):Zj nc (yU al k) x=0:=by
 obtain⟨h1,w,hw,e⟩:=h;have hq:¬sg x.a.q<0:=zL (by rw[e,AA];exact Rat.intCast_nonneg.mpr (Int.natCast_nonneg w));unfold Zj;rcases h1 with⟨h1,h2⟩|⟨i,hi,h1,h2⟩
 .rw[ae jb,ae (λh=>by rw[h2]at h;cases h.2),ae (λh=>hq h.2),ae (λh=>h.1 h1)]
 .rw[ae jb,ae (λh=>jb),ae (λh=>hq h.2),ae (λh=>by rw[aiS h2]at h;cases h.2)]
def aau{nc:Nat}(hn:nc<=6){al:List gB}(h:Ii nc al){k:Nat}(hk:k<al.length):V7 nc (yU al k) (ix al k)=0:=by obtain⟨h3,ht⟩:=h.2 k hk;unfold V7;rw[ae (λe=>by rw[Cb.mpr ⟨jb,λi hi=>by have:=(ht i jb).2;omega⟩]at e;cases e)];refine oC λt htl=>?_;unfold aqz;exact oC λp hp=>aat ((ht t jb).1 p hp)
def aeE{n i nc:Nat}(hn4:n<=4){q:Rat}(hq:0<=q){cs:List C5}{al:List gB}(hc:cs.length<=6/\∀k,k<cs.length->EW n i (ix cs k))(ha:Ii cs.length al):Fv ⟨oK q,cs,al⟩=0:=by
 have h1:=hc.1;have h2:=ha.1;have e:Ej (λk=>Tn (ix cs k)) cs.length=0:=oC λk hk=>by obtain⟨g1,⟨r,hr,g2⟩,v,g3⟩:=hc.2 k hk;unfold Tn;rw[ae (by rcases g1 with g1|⟨j,hj,-,g1⟩<;>omega),ae jb,ae (zL (by rw[g3,AA];exact(vO v).2.1))]
 unfold Fv;dsimp only;rw[ae jb,ae (zL (by rw[AA];exact hq)),ae (λh=>h e)];exact oC λk hk=>aau h1 ha hk
def arM{x y:Ins.Lg}(h1:x.e=y.e)(h2:x.k=y.k):x=y:=by obtain⟨a,b⟩:=x;obtain⟨c,d⟩:=y;cases h1;cases h2;rfl
section
variable {n:Nat} {m:Nat→Rat} {cl:Nat→List C5} {al:Nat→List gB} {dl:List tX} {i:Nat}
def BG.leg(h:BG n m cl al dl){d:Nat}(hd:d<dl.length){k:Nat}(hk:k<(ix dl d).l.length):Zl ⟨fK n m cl al,dl⟩ d k=0:=by
 obtain⟨hv,hr,nd⟩:=h.dg d hd;obtain⟨e,c,hx,h1,h2,h3,h4,-⟩:=hr _ (lC hk);obtain⟨-,-,-,-,-,-,h5,-⟩:=hr _ (lC (l:=(ix dl d).l) (i:=0) jb);have hne:∀y∈mQ dl d k,¬(y.e=Int.ofNat e/\y.k=Int.ofNat c):=λy hy=>by
  rcases bX.mp hy with hy|hy
  .obtain⟨D,hD,hy⟩:=cD.mp hy;obtain⟨j,hj,rfl⟩:=aM hD;rw[<-eY hj]at hy;obtain⟨t,ht,rfl⟩:=aM hy;rw[<-eY ht];exact h3 j hj t ht
  .rintro⟨e1,e2⟩;obtain⟨k2,hk2,rfl⟩:=aM hy;have hk3:k2<k:=by rw[da]at hk2;omega
   rw[im,io]at nd;have:=nd k2 k jb hk hk3;rw[List.getElem_take]at e1 e2;rw[<-eY hk,hx]at this;exact this (arM e1 e2)
 have hlen:(fK n m cl al).length=n:=oZ ..;unfold Zl;dsimp only;rw[hlen]at h1⊢;rw[h4,h5,hx];have e1:((Int.ofNat e).toNat)=e:=rfl;have e2:Int.ofNat e=(e:Int):=rfl;have e3:Int.ofNat c=(c:Int):=rfl;dsimp only;rw[e1];rw[ae (by rw[e2,e3];omega),ae (λhh=>by unfold GY at hh;obtain⟨y,hy,e⟩:=fR.mp hh;rw[af]at e;exact hne y hy ⟨by simpa using e.1,by simpa using e.2⟩),ae (λhh=>hh rfl)]
theorem BG.zero(h:BG n m cl al dl):O9 ⟨fK n m cl al,dl⟩=0:=by
 have hlen:(fK n m cl al).length=n:=oZ ..;have hn:=h.n4;have hd:=h.d.1;have e1:Ej (λi=>Fv (ix (fK n m cl al) i)) n=0:=oC λi hi=>by rw[vX m cl al hi];obtain⟨v,e⟩:=h.mm i hi;exact aeE (nc:=0) hn (by rw[e];exact(vO v).2.1) (h.c i hi) (h.a i hi)
 have e2:Ej (λi=>Ej (Tq ⟨fK n m cl al,dl⟩ i) (ix (fK n m cl al) i).c.length) n=0:=oC λi hi=>oC λk hk=>by
  unfold Tq;dsimp only;rw[vX m cl al hi]at hk⊢;rw[hlen];obtain⟨g1,-⟩:=(h.c i hi).2 k hk;dsimp only;rw[ae];rcases g1 with g1|⟨j,hj,hji,g1⟩
  .rw[g1];omega
  .rw[g1];omega
 unfold O9;dsimp only;rw[hlen,ae jb,ae (λh=>h e1),ae (λh=>h e2)];refine oC λd hd=>?_;unfold O8;dsimp only;obtain⟨h1,v,h2⟩:=h.d.2 d hd;rw[ae jb,ae (zL (by rw[h2,AA];exact(vO v).2.1))];exact oC λk hk=>h.leg hd hk
def BG.cap(h:BG n m cl al dl)(hi:i<n)(k:Nat):mO 60 30 (ix (cl i) k).a.q:=by
 by_cases hk:k<(cl i).length
 .obtain⟨-,-,v,e⟩:=(h.c i hi).2 k hk;rw[e,AA];exact vO v
 .rw[ahW jb];show mO 60 30 (default:R3).q;rw[R3.auG];exact(aiQ jj).zero
theorem BG.prt(h:BG n m cl al dl)(hi:i<n){j:Nat}(hj:j<(al i).length):∀t∈ix (al i) j,∀x∈t,Pv (mO 60 30) (cl i).length x:=λt ht x hx=>by
 obtain⟨h3,hT⟩:=(h.a i hi).2 j hj;obtain⟨a,ha,rfl⟩:=aM ht;rw[<-eY ha]at hx;obtain⟨p,hp,rfl⟩:=aM hx;rw[<-eY hp];obtain⟨g1,w,hw,g2⟩:=(hT a jb).1 p hp;refine⟨?_,λ_=>by rw[g2,AA];exact aiR (OB jb)⟩;rcases g1 with⟨g1,-⟩|⟨c,hc,g1,-⟩
 .exact .inl g1
 .exact .inr jb
def BG.ed(h:BG n m cl al dl)(hi:i<n):ED 60 30 (cl i).length (dI ⟨oK (m i),cl i,al i⟩):=by
 refine⟨λt ht=>?_,λp hp=>?_⟩
 .obtain⟨r,-,rfl⟩:=KJ.mp ht;intro p hp;have:=N8 (P:=mO 60 30) (λk _=>h.cap hi k) r _ jp p hp;exact⟨.inr this.1,this.2⟩
 .obtain⟨a,ha,rfl⟩:=cQ.mp hp;obtain⟨j,hj,rfl⟩:=aM ha;have hj:j<(al i).length:=hj;show wZ _ _ (rM (cl i) (al i)[j]).2;rw[<-eY hj];exact abX (P:=mO 60 30) (aiQ jj) (h.cap hi) (h.prt hi hj)
def OC{k:Nat}:∀{l:gu},(∀t∈l,t.length<=k)->dh l<=l.length*k
 |[],_=>bp _
 |t::l,h=>by have:=OC (l:=l) λu hu=>h u (by simp[hu]);have:=h t kc;unfold dh;rw[bN,cw];omega
def Cj{α:Type}{k:Nat}:∀{l:List (List α)},(∀t∈l,t.length<=k)->l.flatten.length<=l.length*k
 |[],_=>bp _
 |t::l,h=>by have:=Cj (l:=l) λu hu=>h u (by simp[hu]);have:=h t kc;rw[List.flatten_cons,aD,bN,cw];omega
def BG.tl(h:BG n m cl al dl)(hi:i<n){j:Nat}(hj:j<(al i).length):(ix (al i) j).length=3/\∀t∈ix (al i) j,t.length<=7:=by obtain⟨h3,hT⟩:=(h.a i hi).2 j hj;refine⟨h3,λt ht=>?_⟩;obtain⟨a,ha,rfl⟩:=aM ht;rw[<-eY ha];have:=(hT a jb).2;have:=(h.c i hi).1;omega
def ace{cs:List C5}{a:gB}{k:Nat}(ha:∀t∈a,t.length<=k):(lsA cs a).2.length=a.length/\∀t∈(lsA cs a).2,t.length<=k:=by rw[<-Ic];have hl:=Ap cs a a.length jp;refine⟨hl,λt ht=>?_⟩;obtain⟨j,hj,rfl⟩:=aM ht;rw[<-eY hj,Uu jb jp,KO _ _ _ jp];exact ha _ (lC jb)
def BG.eb(h:BG n m cl al dl)(hi:i<n):EB (cl i).length (dI ⟨oK (m i),cl i,al i⟩)/\dh (dI ⟨oK (m i),cl i,al i⟩).rk<=48/\(dI ⟨oK (m i),cl i,al i⟩).ps.length<=2/\∀p∈(dI ⟨oK (m i),cl i,al i⟩).ps,dh p.2<=28:=by
 have hc:=(h.c i hi).1;have ha:=(h.a i hi).1;have hr8:(ZQ (cl i) (cl i).length).length=8:=by unfold ZQ;rw[cP];rfl
 have hrk:dh (ZQ (cl i) (cl i).length)<=8*6:=by rw[<-hr8];refine OC λt ht=>?_;obtain⟨r,-,rfl⟩:=KJ.mp ht;exact aw (KP _ _ _) hc
 have hps:∀p∈(al i).map (rM (cl i)),p.2.length=4/\dh p.2<=28/\p.1.length<=6/\∀k∈p.1,k<(cl i).length:=λp hp=>by
  obtain⟨a,ha,rfl⟩:=cQ.mp hp;obtain⟨j,hj,rfl⟩:=aM ha;rw[<-eY hj];obtain⟨h3,hT⟩:=h.tl hi hj;obtain⟨l1,l2⟩:=ace (cs:=cl i) hT;have hP:∀t∈ix (al i) j,∀x∈t,x.k=-1\/0<=x.k/\x.k<(cl i).length:=λt ht x hx=>(h.prt hi hj t ht x hx).1;have hm:=FH hP;have h4:(rM (cl i) (ix (al i) j)).2.length=4:=by unfold rM;show((lsA _ _).2++[_]).length=4;rw[aD,l1,h3];rfl
  refine⟨h4,?_,by show(lT _).length<=6;omega,λk hk=>?_⟩
  .have:=OC (k:=7) (l:=(rM (cl i) (ix (al i) j)).2) λt ht=>by
    rcases bX.mp (show t∈(lsA (cl i) (ix (al i) j)).2++[yK (lT (ix (al i) j)) (lsA (cl i) (ix (al i) j)).1]from ht)with ht|ht
    .exact l2 t ht
    .rw[dt]at ht;rw[ht];unfold yK;rw[cP];omega
   rw[h4]at this;omega
  .have h1:=(xg hP).mp hk;have:=tq hP k (qB.mpr ⟨jb,h1⟩);omega
 refine⟨⟨jb,by show 0<(ZQ (cl i) (cl i).length).length;omega,by show(ZQ (cl i) (cl i).length).length<=1000;omega,by show dh (ZQ (cl i) (cl i).length)<=1000;omega,by show((al i).map _).length<=1000;rw[cP];omega,λp hp=>?_,λp hp=>?_⟩,hrk,by show((al i).map _).length<=2;rw[cP];exact ha,λp hp=>(hps p hp).2.1⟩
 .have:=hps p hp;exact⟨jb,this.2.2.2⟩
 .have:=hps p hp;omega
theorem sO(x:Nat):(oK (amt x)).fits 1000000:=LU ((zC x).mono jb)
def XJ{w:Nat}(h:w<=16):(oK ((Int.ofNat w:Int):Rat)).fits 1000000:=LU ((H8 (k:=3) (by show w<16777216;omega) jj).mono jb)
def BG.lay(h:BG n m cl al dl)(hi:i<n){j:Nat}(hj:j<(al i).length):ah5 60 (cl i) (ix (al i) j):=by
 have hc:=(h.c i hi).1;obtain⟨h3,hT⟩:=h.tl hi hj;have hG:=((h.a i hi).2 j hj).2;have hf:=Cj hT;refine⟨jb,jb,λt ht=>by have:=hT _ (lC ht);omega,jb,λk hk=>?_,λt ht l hl=>?_,λk=>(h.cap hi k).up,λt ht x hx=>?_⟩
 .obtain⟨-,-,v,e⟩:=(h.c i hi).2 k hk;rw[e];exact sO v
 .obtain⟨-,w,hw,g2⟩:=(hG t jb).1 l hl;rw[g2];exact XJ hw
 .have:=h.prt hi hj t ht x hx;exact⟨this.1,λhq=>(this.2 hq).up⟩
end
def OD:Nat->(Nat->Nat)->Nat
 |0,_=>1
 |n+1,f=>OD n f*f n
def QZ{f:Nat->Nat}:∀{n:Nat},(∀i,i<n->0<f i)->0<OD n f
 |0,_=>Nat.zero_lt_one
 |n+1,h=>cf (QZ λi hi=>h i jb) (h n jb)
def Q5{f:Nat->Nat}{i:Nat}:∀{n:Nat},i<n->f i∣OD n f
 |0,h=>jb
 |n+1,h=>by
  unfold OD;by_cases e:i=n
  .subst e;exact gp _ _
  .exact bL (Q5 (by omega:i<n)) (aR _ _)
def XK{f:Nat->Nat}{k:Nat}:∀{n:Nat},(∀i,i<n->f i<=k)->OD n f<=k^n
 |0,_=>cI 1
 |n+1,h=>by unfold OD;rw[di];exact cB (XK λi hi=>h i jb) (h n jb)
def OE{a b:Nat}(h:(a:Rat)<=(b:Rat)):a<=b:=br.mp h
def XL{A n:Nat}{U:Rat}{t:dP}(h:zD (λq=>dU A q/\0<=q/\q<=U) n t):aV t<=(t.length:Rat)*U:=by
 induction t with
 |nil=>
  show(0:Rat)<=_
  have:(([]:dP).length:Rat)=0:=rfl
  rw[this];grind
 |cons p t ih=>
  have h1:=ih λq hq=>h q (by simp[hq])
  have h2:=(h p kc).2.2.2
  rw[bN,fX]
  show p.2+aV t<=_
  have:((1:Nat):Rat)=1:=rfl
  grind
def XM{e:eH}(h:Bc e)(c:Nat):yG e 0 c=0:=CY h.rk _
def aiT{e:eH}(h:Bc e)(c:Nat):sK e 0 c=0:=by
 have hp:∀p:List Nat×gu,kL e 0 p=0:=λp=>jc λc _=>XM h c;unfold sK;rw[XM h,jc λp hp'=>by rw[hp p];exact CY (h.ps p hp') _];split
 .exact dE 0
 .first|rfl|exact dE 0
def arN{e:eH}{n:Nat}(h:Bc e)(hI:InE n e){x:Rat}(hx:0<=x){c:Nat}(hc:c<n):sK e x c<=x:=by have h1:=WX (n:=n) h hI (x:=0) (y:=x) be hx;rw[bI λc _=>aiT h c]at h1;have h2:=CX (f:=sK e x) hc λi _=>Ja h hx i;grind
def acf{D:Nat}{W:Rat}{q:fJ->Rat}{l:fJ}(hW:Zk D 1 W):∀(t:List fJ){Q:Rat}{K M:Nat},(∀a∈t,Zk D 1 (q a))->Zk D K Q->K+t.length<=M->Zk D (t.length*(2*M+2)) (Je W q Q t l)
 |[],Q,K,M,_,_,_=>Zk.zero.mono (bp _)
 |a::t,Q,K,M,hq,hQ,hM=>by
  rw[bN]at hM;have ha:=hq a kc;have h1:=acf hW t (l:=l) (K:=K+1) (M:=M) (λb hb=>hq b (by simp[hb])) (hQ.add ha) jb;have h2:=(((hQ.add ha).sub hW).pq).sub ((hQ.sub hW).pq);rw[aek,bN,cw,eL];refine Zk.add ?_ h1;split
  .exact h2.mono jb
  .exact Zk.zero.mono (bp _)
section
variable {n:Nat} {m:Nat→Rat} {cl:Nat→List C5} {al:Nat→List gB} {dl:List tX}
def zV(n:Nat)(m:Nat->Rat)(cl:Nat->List C5)(al:Nat->List gB)(dl:List tX):iJ:=⟨fK n m cl al,dl⟩
def sS(n:Nat)(m:Nat->Rat)(cl:Nat->List C5)(al:Nat->List gB)(dl:List tX):(zV n m cl al dl).e.length=n:=oZ ..
theorem Ij(m:Nat->Rat)(cl:Nat->List C5)(al:Nat->List gB)(dl:List tX){i:Nat}(h:i<n):ix (zV n m cl al dl).e i=⟨oK (m i),cl i,al i⟩:=vX m cl al h
def BG.bld(h:BG n m cl al dl):Xw 60 (zV n m cl al dl):=by
 have hn:=sS n m cl al dl;have hz:=Xj h.zero;refine⟨by have:=h.n4;omega,by show dl.length<=1000;have:=h.d.1;omega,λi hi=>?_,λd hd=>?_,λd hd k hk=>?_⟩
 .rw[hn]at hi;rw[Ij m cl al dl hi];have hc:=h.c i hi;refine⟨by show(cl i).length<=1000;omega,by show(al i).length<=1000;have:=(h.a i hi).1;omega,λk hk=>?_,λk hk=>?_,λk=>(h.cap hi k).up,λj hj=>h.lay hi hj⟩
  .obtain⟨-,⟨r,h1,h2⟩,-⟩:=hc.2 k hk;exact⟨r,jb,h2⟩
  .obtain⟨-,-,v,e⟩:=hc.2 k hk;show(ix (cl i) k).a.fits _;rw[e];exact sO v
 .have:=(h.d.2 d hd).1;show(ix dl d).l.length<=1000;omega
 .obtain⟨e,j,h1,h2,h3,-⟩:=(hz.l d hd).2.2 k hk;exact⟨e,j,h1,h2,h3⟩
def BG.small(h:BG n m cl al dl):Zm 134217728 (zV n m cl al dl):=by
 have hn:=sS n m cl al dl;have up:∀{r:R3},r.fits 1000000->r.fits 134217728:=λh=>⟨by have:=h.1;omega,by have:=h.2;omega⟩
 refine⟨λi hi=>?_,λd hd=>?_,by have:=h.n4;omega,by show dl.length<=_;have:=h.d.1;omega,λd hd=>by show(ix dl d).l.length<=_;have:=(h.d.2 d hd).1;omega⟩
 .rw[hn]at hi;rw[Ij m cl al dl hi];have hc:=h.c i hi;have ha:=h.a i hi;have ha1:=ha.1;refine⟨?_,λk hk=>?_,λj t p hj ht hp=>?_,by show(cl i).length<=_;omega,by show(al i).length<=_;omega,λj hj=>by show(ix (al i) j).length<=_;have:=(h.tl hi hj).1;omega,λj t hj ht=>?_⟩
  .obtain⟨v,e⟩:=h.mm i hi;show(oK (m i)).fits _;rw[e];exact up (sO v)
  .obtain⟨-,-,v,e⟩:=hc.2 k hk;show(ix (cl i) k).a.fits _;rw[e];exact up (sO v)
  .exact up ((h.lay hi hj).fp t ht p hp)
  .have:=(h.lay hi hj).nt t ht;show(ix (ix (al i) j) t).length<=_;omega
 .obtain⟨-,v,e⟩:=h.d.2 d hd;show(ix dl d).w.fits _;rw[e];exact up (sO v)
def SmB(B:Nat)(x:Rat):Prop:=dU B x/\0<=x/\x<=100000
def SmB.v{B:Nat}{x:Rat}(h:SmB B x):x<=vQ:=by have h1:=QH (k:=100000) jj;have:((100000:Nat):Rat)=100000:=rfl;have:=h.2.2;grind
end
def acg{σ:St}(hW:WF σ){p p':Nat->Prop}{av bv:B}{n:Nat}{f g:Nat->Rat}(ha:jB p σ.h av n f)(hb:jB p' σ.h bv n g)(hn:n<=1000)(hf:∀i,i<n->Sz (f i))(hg:∀i,i<n->Sz (g i))(hle:∀i,i<n->f i<=g i):
  aC EN 21 [.c av,.c bv] σ λr σ'=>r=.c (.bool true)/\Fr σ σ':=by
 refine aQ (CB.o _ _) CB.h ?_
 unfold CB
 dsimp only
 have hla:=aZ.len ha
 have hlb:=aZ.len hb
 have hFr:=Fr.refl hW
 simp(disch:=try exact jz) only[go_sem,z3,hla,hlb]
 refine aF (λx tm σ'=>∃j,x=n-j/\j<=n/\Tr.ah tm 0=.c av/\Tr.ah tm 1=.c bv/\Tr.ah tm 7=.c (.int .i64 (.ofNat n))/\Tr.ah tm 8=.c (.int .i64 (.ofNat j))/\Fr σ σ') n ?_ ?_
 .refine⟨0,jb,jb,?_⟩
  simp(disch:=try exact jz) only[go_sem,z3,am]
  exact hFr
 .rintro x tm σ' ⟨j,rfl,hj,t0,t1,t7,t8,hF⟩
  simp(disch:=try exact jz) only[go_sem,z3,t0,t1,t7,t8,aG]
  refine aH (λhlt=>?_) (λhlt=>?_)
  .obtain⟨b5,o5,c5,rfl,-,bV⟩:=aZ.at3 ha hlt
   obtain⟨b6,o6,c6,rfl,-,bU⟩:=aZ.at3 hb hlt
   have bV:=hF.ld hW bV
   have bU:=hF.ld hW bU
   have kM:=Fr.refl hF.wf
   have z1:=hf j hlt
   have z2:=hg j hlt
   have z3:=hle j hlt
   have hd:decide ((Int.ofNat n:Int)<=Int.ofNat j)=false:=az kd
   have hd2:decide ((Int.ofNat 0:Int)<oJ (f j) (g j))=false:=az (by rw[show(Int.ofNat 0:Int)=0 from rfl];exact Int.not_lt.mpr (pX.mpr z3))
   simp(disch:=try exact jz) only[go_sem,z3,t0,t1,t7,t8,hd,hd2,bV,bU,hla,hlb]
   exact⟨n-(j+1),jb,j+1,rfl,jb,rfl,hF⟩
  .have:j=n:=jb
   subst this
   simp(disch:=try exact jz) only[go_sem,z3,t0,t1,hla,hlb]
   exact hF
structure ayJ(n:Nat)(x d a b:Nat->Rat):Prop where
 zx:∀i,i<n->Sz (x i)
 za:∀i,i<n->Sz (a i)
 zb:∀i,i<n->Sz (b i)
 zd:∀i,i<n->Sz (d i)
 sa:∀i,i<=n->Sz (aB i a)
 sb:∀i,i<=n->Sz (aB i b)
 sd:∀i,i<=n->Sz (aB i d)
 sg:Sz (aB n b-aB n a)
 le:∀i,i<n->a i<=b i
 lk:aB n b-aB n a<=aB n d
end Go.Proofs.Xe
