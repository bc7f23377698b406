import Derived.Test.YthkggcakedkboaaGreatDoorYa1
set_option linter.all false
namespace Go.Proofs.Ins
def aB:Nat->(Nat->Rat)->Rat
 |0,_=>0
 |n+1,f=>aB n f+f n
theorem aK{n:Nat}{f g:Nat->Rat}(h:∀i,i<n->f i=g i):aB n f=aB n g:=by
 induction n with
 |zero=>rfl
 |succ n ih=>grind[aB]
theorem bK{n:Nat}{f:Nat->Rat}(h:∀i,i<n->f i=0):aB n f=0:=by
 induction n with
 |zero=>rfl
 |succ n ih=>grind[aB]
theorem dF(n:Nat)(f g:Nat->Rat):aB n (λi=>f i+g i)=aB n f+aB n g:=by
 induction n with
 |zero=>grind[aB]
 |succ n ih=>grind[aB]
theorem iH(n:Nat)(f g:Nat->Rat):aB n (λi=>f i-g i)=aB n f-aB n g:=by
 induction n with
 |zero=>grind[aB]
 |succ n ih=>grind[aB]
theorem gQ(n:Nat)(c:Rat)(f:Nat->Rat):aB n (λi=>c*f i)=c*aB n f:=by
 induction n with
 |zero=>grind[aB]
 |succ n ih=>grind[aB]
theorem qh(n:Nat)(c:Rat)(f:Nat->Rat):aB n (λi=>f i*c)=aB n f*c:=by grind[Rat.mul_comm,gQ]
def kN{n:Nat}{f g:Nat->Rat}(h:∀i,i<n->f i<=g i):aB n f<=aB n g:=by
 induction n with
 |zero=>rfl
 |succ n ih=>
  grind[aB]
theorem AP{n:Nat}{f:Nat->Rat}(h:∀i,i<n->0<=f i):0<=aB n f:=by have:=kN (n:=n) (f:=λ_=>0) (g:=f) h;simp_all[bK]
def AQ{n:Nat}{f g:Nat->Rat}(h:∀i,i<n->f i<=g i)(e:aB n g<=aB n f):∀i,i<n->f i=g i:=by
 induction n with
 |zero=>omega
 |succ n ih=>
  rw[aB,aB]at e
  have h1:=kN (n:=n) (f:=f) (g:=g) λi hi=>h i jb
  grind
theorem XK{n:Nat}{f:Nat->Rat}(h:∀i,i<n->0<=f i)(e:aB n f<=0):∀i,i<n->f i=0:=by intro i hi;exact(AQ (f:=λ_=>0) h (by simp_all[bK]) i hi).symm
def zW(n m:Nat)(f:Nat->Nat->Rat):aB n (λi=>aB m λj=>f i j)=aB m λj=>aB n λi=>f i j:=by
 induction n with
 |zero=>grind[bK]
 |succ n ih=>
  simp_all[aB,dF]
theorem jq{n:Nat}{f:Nat->Rat}{k:Nat}(hk:k<n)(h:∀i,i<n->i≠k->f i=0):aB n f=f k:=by
 induction n with
 |zero=>omega
 |succ n ih=>
  grind[aB,bK]
def Dw{n:Nat}{f:Nat->Rat}{k:Nat}(hk:k<n)(h:∀i,i<n->0<=f i):f k<=aB n f:=by
 induction n with
 |zero=>omega
 |succ n ih=>
  grind[aB,AP]
def mv(n:Nat)(M:Nat->Nat->Rat)(v:Nat->Rat)(j:Nat):Rat:=aB n λi=>M j i*v i
structure KI(n:Nat)(M:Nat->Nat->Rat):Prop where
 nn:∀j i,j<n->i<n->0<=M j i
 le:∀i,i<n->aB n (λj=>M j i)<=1
def Shut(n:Nat)(M:Nat->Nat->Rat)(S:Nat->Prop):Prop:=∀i,i<n->S i->aB n (λj=>M j i)=1/\∀j,j<n->¬S j->M j i=0
def XL{n:Nat}(M:Nat->Nat->Rat)(S:Nat->Prop)[DecidablePred S](i:Nat):aB n (λj=>M j i)=aB n (λj=>if S j then M j i else 0)+aB n (λj=>if S j then 0 else M j i):=by rw[<-dF];grind
def ani{n:Nat}{M:Nat->Nat->Rat}(hM:KI n M)(S:Nat->Prop)[DecidablePred S]{i:Nat}(hi:i<n):aB n (λj=>if S j then M j i else 0)<=1:=by
 have h1:=hM.le i hi;rw[XL M S i]at h1;have h2:0<=aB n (λj=>if S j then 0 else M j i):=AP λj hj=>by
  split
  .rfl
  .exact hM.nn j i hj hi
 grind
def anj{n:Nat}{M:Nat->Nat->Rat}(hM:KI n M)(S:Nat->Prop)[DecidablePred S]{i:Nat}(hi:i<n)(h:1<=aB n (λj=>if S j then M j i else 0)):aB n (λj=>M j i)=1/\∀j,j<n->¬S j->M j i=0:=by
 have h1:=hM.le i hi;have h0:=XL (n:=n) M S i;have h2:∀j,j<n->0<=(if S j then 0 else M j i):=λj hj=>by
  split
  .rfl
  .exact hM.nn j i hj hi
 grind[Go.Proofs.Ins.AP,Go.Proofs.Ins.XK]
def Oq{n:Nat}{M:Nat->Nat->Rat}(hM:KI n M){w:Nat->Rat}(h:∀j,j<n->0<w j->w j<=mv n M w j):Shut n M λi=>0<w i:=by
 have h1:aB n (λj=>if 0<w j then w j else 0)<=aB n λj=>if 0<w j then mv n M w j else 0:=kN λj hj=>by grind
 have h2:(aB n λj=>if 0<w j then mv n M w j else 0)<=aB n λj=>aB n λi=>(if 0<w j then M j i else 0)*(if 0<w i then w i else 0):=kN λj hj=>by
  by_cases hp:0<w j
  .simp only[ab hp];refine kN λi hi=>?_;by_cases hq:0<w i
   .simp_all
   .simp only[ae hq];have a:=hM.nn j i hj hi;have b:w i<=0:=by grind
    have:=cN b a;grind
  simp_all[Go.Proofs.Ins.AP]
 rw[zW]at h2;have h3:∀i,i<n->aB n (λj=>(if 0<w j then M j i else 0)*(if 0<w i then w i else 0))<=(if 0<w i then w i else 0):=λi hi=>by
  rw[qh n (if 0<w i then w i else 0) λj=>if 0<w j then M j i else 0];have a:=ani hM (λi=>0<w i) hi;have b:0<=(if 0<w i then w i else 0):=by grind
  have:=bo a b;grind
 have h4:=AQ h3 (cI h1 h2);intro i hi hp;have h5:=h4 i hi;rw[qh n (if 0<w i then w i else 0) λj=>if 0<w j then M j i else 0,ab hp]at h5;refine anj hM (λi=>0<w i) hi ?_;generalize aB n (λj=>if 0<w j then M j i else 0)=z at h5⊢;have:(z-1)*w i=0:=by grind
 rcases gP.mp this with e|e<;>grind
structure Flow(n:Nat) where
 G:(Nat->Rat)->Nat->Rat
 M:(Nat->Rat)->Nat->Nat->Rat
 mono:∀x y,(∀i,i<n->0<=x i)->(∀i,i<n->x i<=y i)->∀j,j<n->G x j<=G y j
 leak:∀x y,(∀i,i<n->0<=x i)->(∀i,i<n->x i<=y i)->aB n (λi=>x i-G x i)<=aB n (λi=>y i-G y i)
 nn:∀x,(∀i,i<n->0<=x i)->∀j i,j<n->i<n->0<=M x j i
 loc:∀x d,(∀i,i<n->0<=x i)->(∀i,i<n->0<=d i)->∃ε,0<ε/\∀s,0<=s->s<=ε->∀j,j<n->G (λi=>x i+s*d i) j=G x j+s*mv n (M x) d j
def Nn(n:Nat)(x:Nat->Rat):Prop:=∀i,i<n->0<=x i
def Le(n:Nat)(x y:Nat->Rat):Prop:=∀i,i<n->x i<=y i
def bf(x d:Nat->Rat)(s:Rat)(i:Nat):Rat:=x i+s*d i
def Nn.step{n:Nat}{x d:Nat->Rat}{s:Rat}(hx:Nn n x)(hd:Nn n d)(hs:0<=s):Nn n (bf x d s):=λi hi=>by have:=hx i hi;have:=cj hs (hd i hi);unfold Ins.bf;grind
def le_step{n:Nat}{x d:Nat->Rat}{s:Rat}(hd:Nn n d)(hs:0<=s):Le n x (bf x d s):=λi hi=>by have:=cj hs (hd i hi);unfold bf;grind
def Nn.le{n:Nat}{x y:Nat->Rat}(h:Nn n x)(hl:Le n x y):Nn n y:=λi hi=>cI (h i hi) (hl i hi)
section
variable {n:Nat} (F:Flow n)
def Lin(x d:Nat->Rat)(h:Rat):Prop:=∀s,0<=s->s<=h->∀j,j<n->F.G (bf x d s) j=F.G x j+s*mv n (F.M x) d j
def Same(x d:Nat->Rat)(h:Rat):Prop:=∀s,0<=s->s<h->∀j i,j<n->i<n->F.M (bf x d s) j i=F.M x j i
theorem cancel{s a b:Rat}(hs:0<s)(h:s*a<=s*b):a<=b:=by refine il.mp λhlt=>?_;have:=Rat.mul_lt_mul_of_pos_left hlt hs;grind
def ank{M:Nat->Nat->Rat}{k:Nat}(hk:k<n)(j:Nat):mv n M (λi=>if i=k then 1 else 0) j=M j k:=by grind[mv,jq]
def Flow.sub{x:Nat->Rat}(hx:Nn n x):KI n (F.M x):=by
 refine⟨F.nn x hx,λk hk=>?_⟩;have hd:Nn n (λi=>if i=k then 1 else 0):=λi _=>by grind
 obtain⟨ε,he,hl⟩:=F.loc x _ hx hd;have h1:=F.leak x (bf x _ ε) hx (le_step hd kd);have h2:aB n (λi=>bf x (λi=>if i=k then 1 else 0) ε i-F.G (bf x (λi=>if i=k then 1 else 0) ε) i)=aB n (λi=>x i-F.G x i)+(ε*1-ε*aB n (λj=>F.M x j k)):=by
  have e1:(1:Rat)=aB n (λi=>if i=k then 1 else 0):=by grind[jq]
  have e2:ε*1-ε*aB n (λj=>F.M x j k)=aB n λj=>ε*(if j=k then 1 else 0)-ε*F.M x j k:=by rw[iH,gQ,gQ,<-e1]
  rw[e2,<-dF];refine aK λj hj=>?_;have:=hl ε kd be j hj;rw[ank hk]at this;unfold bf;grind
 grind[cancel]
def acD{ε:Rat}(h:0<ε):∃s,0<s/\s<=ε/\s<=1:=by
 by_cases h1:ε<=1
 .grind
 .exact⟨1,jj,by grind,be⟩
theorem Rj{x z:Nat->Rat}(hx:Nn n x)(hz:Le n x z){j:Nat}(hj:j<n)(h:F.G z j<=F.G x j):∀i,i<n->x i<z i->F.M x j i=0:=by
 have hd:Nn n (λi=>z i-x i):=λi hi=>by have:=hz i hi;grind
 obtain⟨ε,he,hl⟩:=F.loc x _ hx hd;obtain⟨s,h1,h2,h3⟩:=acD he;have h4:=hl s kd h2 j hj;have h5:Le n (bf x (λi=>z i-x i) s) z:=λi hi=>by have:=bo h3 (hd i hi);unfold bf;grind
 have h6:=F.mono _ _ (hx.step hd kd) h5 j hj;unfold bf at h6;rw[h4]at h6;have h7:s*mv n (F.M x) (λi=>z i-x i) j<=s*0:=by grind
 have h8:=cancel (a:=mv n (F.M x) (λi=>z i-x i) j) (b:=0) h1 h7;intro i hi hlt;have h9:=XK (λi hi=>cj (F.nn x hx j i hj hi) (hd i hi)) h8 i hi;grind
def afj{x z:Nat->Rat}(hx:Nn n x)(hz:Le n x z)(hl:aB n (λi=>z i-F.G z i)<=aB n (λi=>x i-F.G x i))(h:∀j,j<n->z j<=x j->F.G z j<=F.G x j):Shut n (F.M x) λi=>x i<z i:=by
 have hd:Nn n (λi=>z i-x i):=λi hi=>by have:=hz i hi;grind
 obtain⟨ε,he,hlin⟩:=F.loc x _ hx hd;obtain⟨s,h1,h2,h3⟩:=acD he;have h5:Le n (bf x (λi=>z i-x i) s) z:=λi hi=>by have:=bo h3 (hd i hi);unfold bf;grind
 have h6:=F.leak _ _ (hx.step hd kd) h5;have h7:aB n (λi=>bf x (λi=>z i-x i) s i-F.G (bf x (λi=>z i-x i) s) i)=aB n (λi=>x i-F.G x i)+s*(aB n (λi=>z i-x i)-aB n (mv n (F.M x) λi=>z i-x i)):=by rw[<-iH,<-gQ,<-dF];refine aK λj hj=>?_;have:=hlin s kd h2 j hj;unfold bf;grind
 rw[h7]at h6;have h8:s*(aB n (λi=>z i-x i)-aB n (mv n (F.M x) λi=>z i-x i))<=s*0:=by grind
 have h9:=cancel (b:=0) h1 h8;have hM:=F.sub hx;have h10:aB n (mv n (F.M x) λi=>z i-x i)=aB n λi=>aB n (λj=>F.M x j i)*(z i-x i):=by unfold mv;rw[zW];exact aK λi _=>qh n _ _
 rw[h10]at h9;have h11:=AQ (f:=λi=>aB n (λj=>F.M x j i)*(z i-x i)) (g:=λi=>z i-x i) (λi hi=>by have:=bo (hM.le i hi) (hd i hi);dsimp only at this;grind) kd
 intro i hi hlt;grind[Go.Proofs.Ins.Rj]
def Fix(c:Nat->Rat)(t:Rat)(x:Nat->Rat):Prop:=∀j,j<n->x j=t*c j+F.G x j
def Pre(c:Nat->Rat)(t:Rat)(y:Nat->Rat):Prop:=∀j,j<n->t*c j+F.G y j<=y j
def Post(c:Nat->Rat)(t:Rat)(y:Nat->Rat):Prop:=∀j,j<n->y j<=t*c j+F.G y j
def Fix.leak{c:Nat->Rat}{t:Rat}{x:Nat->Rat}(h:Fix F c t x):aB n (λi=>x i-F.G x i)=aB n λi=>t*c i:=aK λi hi=>by have:=h i hi;grind
def XM{c:Nat->Rat}{t:Rat}{x y:Nat->Rat}(hx:Nn n x)(hf:Fix F c t x)(hno:∀S:Nat->Prop,(∃i,i<n/\S i)->¬Shut n (F.M x) S)(hy:Nn n y)(hp:Post F c t y):Le n y x:=by
 obtain⟨z,ez⟩:∃z:Nat->Rat,z=λi=>if x i<y i then y i else x i:=⟨_,rfl⟩
 have hxz:Le n x z:=λi _=>by grind
 have hyz:Le n y z:=λi _=>by grind
 have hz:Post F c t z:=λj hj=>by have h1:=F.mono _ _ hx hxz j hj;have h2:=F.mono _ _ hy hyz j hj;have h3:=hf j hj;have h4:=hp j hj;grind
 have h1:=F.leak _ _ hx hxz;have h2:=hf.leak;have h3:=kN hz;rw[dF]at h3;have h4:aB n (λi=>z i-F.G z i)=aB n z-aB n (F.G z):=iH n _ _;have hl:aB n (λi=>z i-F.G z i)<=aB n (λi=>x i-F.G x i):=by grind
 have h5:=AQ hz (by grind[dF])
 have h6:=afj F hx hxz hl λj hj hle=>by have:=h5 j hj;have:=hf j hj;grind
 intro i hi;grind
def aiG:∀(n:Nat) (x y v:Nat->Rat) (h:Rat),0<=h->Le n x y->Nn n v->∃s,0<=s/\s<=h/\Le n (bf x v s) y/\(s=h\/∃i,i<n/\0<v i/\bf x v s i=y i)
 |0,x,y,v,h,h0,_,_=>⟨h,h0,be,λi hi=>jb,.inl rfl⟩
 |n+1,x,y,v,h,h0,hl,hv=>by
  obtain⟨s,h1,h2,h3,h4⟩:=aiG n x y v h h0 (λi hi=>hl i jb) (λi hi=>hv i jb);by_cases hc:bf x v s n<=y n
  .refine⟨s,h1,h2,λi hi=>?_,?_⟩
   .by_cases e:i=n
    .subst e;exact hc
    .exact h3 i jb
   .rcases h4 with h4|⟨i,hi,h5⟩
    .exact .inl h4
    .exact .inr ⟨i,jb,h5⟩
  .have hxn:=hl n jb;have hvn:=hv n jb;unfold bf at hc;have hp:0<v n:=by
    rcases Rat.le_iff_lt_or_eq.mp hvn with e|e
    .exact e
    .exfalso;rw[<-e]at hc;grind
   obtain⟨r,er⟩:∃r,r*v n=y n-x n:=⟨(y n-x n)/v n,de kd⟩
   have hr0:0<=r:=by refine il.mp λhlt=>?_;have:=dC hlt hp;grind
   have hrs:r<=s:=by refine il.mp λhlt=>?_;have:=dC hlt hp;grind
   refine⟨r,hr0,by grind,λi hi=>?_,.inr ⟨n,jb,hp,by unfold bf;grind⟩⟩;by_cases e:i=n
   .subst e;unfold bf;grind
   .have a:=h3 i jb;have b:=bo hrs (hv i jb);unfold bf at*;grind
def XO{c:Nat->Rat}{t:Rat}{x v:Nat->Rat}{h:Rat}(hf:Fix F c t x)(hl:Lin F x v h)(hv:∀j,j<n->v j=mv n (F.M x) v j+c j){s:Rat}(h0:0<=s)(hs:s<=h):Fix F c (t+s) (bf x v s):=λj hj=>by rw[hl s h0 hs j hj];have:=hf j hj;grind[bf]
def XP{c:Nat->Rat}{t:Rat}{x d:Nat->Rat}{h:Rat}(hf:Fix F c t x)(hl:Lin F x d h)(hd:∀j,j<n->d j=mv n (F.M x) d j){s:Rat}(h0:0<=s)(hs:s<=h):Fix F c t (bf x d s):=λj hj=>by rw[hl s h0 hs j hj];have:=hf j hj;grind[bf]
def Least(c:Nat->Rat)(t:Rat)(x:Nat->Rat):Prop:=∀t' y,Nn n y->Pre F c t' y->(t<t'\/(t=1/\t'=1))->Le n x y
theorem Least.zero(c:Nat->Rat)(t:Rat):Least F c t λ_=>0:=λ_ _ hy _ _ i hi=>hy i hi
def touch{c:Nat->Rat}{t t':Rat}{z y:Nat->Rat}(hz:Nn n z)(hzy:Le n z y)(hc:∀j,j<n->0<=c j)(hf:Fix F c t z)(hp:Pre F c t' y)(ht:t<t'){j:Nat}(hj:j<n)(he:y j<=z j):
  c j=0/\∀i,i<n->z i<y i->F.M z j i=0:=by
 have h1:=F.mono _ _ hz hzy j hj
 have h2:=hf j hj
 have h3:=hp j hj
 have h4:(t'-t)*c j<=0:=by grind
 have h5:c j<=0:=cancel (s:=t'-t) kd kd
 have h6:c j=0:=by grind
 refine⟨h6,Rj F hz hzy hj (by rw[h6]at h2 h3;grind)⟩
def aaL{c:Nat->Rat}{t:Rat}{x v:Nat->Rat}{h:Rat}(hx:Nn n x)(hv:Nn n v)(hc:∀j,j<n->0<=c j)(h0:0<=h)(hf:Fix F c t x)(hl:Lin F x v h)(hsm:Same F x v h)
  (hvm:∀j,j<n->v j=mv n (F.M x) v j+c j) (hno:∀S:Nat->Prop,(∃i,i<n/\S i)->(∀i,i<n->S i->0<v i)->¬Shut n (F.M x) S) (ht:t<1) (hL:Least F c t x):Least F c (t+h) (bf x v h):=by
 intro t' y hy hp ht'
 have hxy:Le n x y:=hL t' y hy hp (.inl kd)
 obtain⟨s,h1,h2,h3,h4⟩:=aiG n x y v h h0 hxy hv
 rcases h4 with h4|⟨i,hi,hvi,hti⟩
 .grind
 by_cases hsh:s<h
 .exfalso
  have hz:=hx.step hv h1
  have hfz:=XO F hf hl hvm h1 (dT hsh)
  have htz:t+s<t':=by grind
  have UQ:=λj hj he=>touch F (j:=j) hz h3 hc hfz hp htz hj he
  obtain⟨w,ew⟩:∃w:Nat->Rat,w=λi=>if bf x v s i=y i then v i else 0:=⟨_,rfl⟩
  have hM:=F.sub hx
  have hws:=Oq hM (w:=w) λj hj hw=>by
   have e:w j=if bf x v s j=y j then v j else 0:=by rw[ew]
   by_cases hq:bf x v s j=y j
   .rw[ab hq]at e;obtain⟨hc0,hm0⟩:=UQ j hj kd;have a:mv n (F.M x) w j=mv n (F.M x) v j:=aK λk hk=>by
     rw[ew];dsimp only;by_cases hk2:bf x v s k=y k
     .grind
     .have b:=hm0 k hk (by have:=h3 k hk;grind);rw[hsm s h1 hsh j k hj hk]at b;grind
    grind
   grind
  refine hno (λi=>0<w i) ⟨i,hi,?_⟩ (λk hk hw=>?_) hws
  .grind
  grind
 grind
def aaM{c:Nat->Rat}{t:Rat}{x d:Nat->Rat}{h:Rat}(hx:Nn n x)(hd:Nn n d)(hc:∀j,j<n->0<=c j)(h0:0<=h)(hf:Fix F c t x)(hl:Lin F x d h)(hsm:Same F x d h)
  (hdm:∀j,j<n->d j=mv n (F.M x) d j) (hre:∀E:Nat->Prop,(∃i,i<n/\E i/\0<d i)->(∀j,j<n->E j->c j=0)->(∀j i,j<n->i<n->E j->F.M x j i≠0->E i)->False)
  (ht:t<1) (hL:Least F c t x):Least F c t (bf x d h):=by
 intro t' y hy hp ht'
 have hxy:Le n x y:=hL t' y hy hp ht'
 obtain⟨s,h1,h2,h3,h4⟩:=aiG n x y d h h0 hxy hd
 rcases h4 with h4|⟨i,hi,hvi,hti⟩
 .grind
 by_cases hsh:s<h
 .exfalso
  have hz:=hx.step hd h1
  have hfz:=XP F hf hl hdm h1 (dT hsh)
  have UQ:=λj hj he=>touch F (j:=j) hz h3 hc hfz hp kd hj he
  refine hre (λi=>bf x d s i=y i) ⟨i,hi,hti,hvi⟩ (λj hj he=>(UQ j hj kd).1) λj k hj hk he hne=>?_
  refine bp λhk2=>hne ?_
  have b:=(UQ j hj kd).2 k hk (by have:=h3 k hk;grind)
  rwa[hsm s h1 hsh j k hj hk]at b
 grind
end
abbrev dJ:=List (Int×Rat)
def aV:dJ->Rat
 |[]=>0
 |p::t=>p.2+aV t
def fZ:dJ->Int->Rat
 |[],_=>0
 |p::t,c=>(if p.1=c then p.2 else 0)+fZ t c
def NnT(t:dJ):Prop:=∀p∈t,0<=p.2
theorem wG{t:dJ}(h:NnT t)(c:Int):0<=fZ t c:=by
 induction t with
 |nil=>rfl
 |cons p t ih=>
  have h1:=ih λq hq=>h q (by simp[hq])
  have h2:=h p kc
  grind[fZ]
theorem Ls{t:dJ}(h:NnT t)(c:Int):fZ t c<=aV t:=by
 induction t with
 |nil=>rfl
 |cons p t ih=>
  have h1:=ih λq hq=>h q (by simp[hq])
  have h2:=h p kc
  grind[fZ,aV]
def yI{t:dJ}(h:NnT t):0<=aV t:=cI (wG h 0) (Ls h 0)
abbrev fU:=List dJ
def Kw(l:fU):Prop:=∀t∈l,NnT t
def iy:fU->Rat->Int->Rat
 |[],_,_=>0
 |t::l,m,c=>if m<aV t then fZ t c*(m/aV t)else fZ t c+iy l (m-aV t) c
def jU:fU->Rat->Rat->Int->Rat
 |[],_,_,_=>0
 |t::l,m,r,c=>if m<aV t then fZ t c*(r/aV t)else jU l (m-aV t) r c
def mG:fU->Rat->Option Rat
 |[],_=>none
 |t::l,m=>if m<aV t then some (aV t-m)else mG l (m-aV t)
def dP:fU->Rat->Nat
 |[],_=>0
 |t::l,m=>if m<aV t then 0 else dP l (m-aV t)+1
def jh:fU->Rat->Rat
 |[],_=>0
 |t::l,m=>if m<aV t then m else aV t+jh l (m-aV t)
def jr:fU->Rat
 |[]=>0
 |t::l=>aV t+jr l
def Kw.tl{t:dJ}{l:fU}(h:Kw (t::l)):NnT t/\Kw l:=⟨h t kc,λu hu=>h u (by simp[hu])⟩
theorem aaN{a b:Rat}(ha:0<=a)(hb:0<b):0<=a/b:=by refine il.mp λhlt=>?_;have h1:=dC hlt hb;grind[Rat.div_mul_cancel]
def xM{a b:Rat}(hb:0<b)(h:a<=b):a/b<=1:=by refine il.mp λhlt=>?_;grind[Rat.mul_lt_mul_of_pos_right,Rat.div_mul_cancel]
theorem aiH{a b c:Rat}(hb:0<b)(h:a<=c):a/b<=c/b:=by refine il.mp λhlt=>?_;grind[Rat.mul_lt_mul_of_pos_right,Rat.div_mul_cancel]
theorem Dy{l:fU}(h:Kw l)(c:Int):iy l 0 c=0:=by
 induction l with
 |nil=>rfl
 |cons t l ih=>
  obtain⟨h1,h2⟩:=h.tl
  grind[iy,wG,Ls]
theorem UU{l:fU}(h:Kw l)(c:Int):∀{m:Rat},0<=m->0<=iy l m c:=by
 induction l with
 |nil=>intro m _;rfl
 |cons t l ih=>
  intro m hm
  obtain⟨h1,h2⟩:=h.tl
  grind[iy,wG,Rat.mul_nonneg,aaN]
def aiI{l:fU}(h:Kw l)(c:Int){r:Rat}(hr:0<=r):∀{m:Rat},0<=m->0<=jU l m r c:=by
 induction l with
 |nil=>intro m _;rfl
 |cons t l ih=>
  intro m hm
  obtain⟨h1,h2⟩:=h.tl
  grind[jU,Rat.mul_nonneg,wG,aaN]
def UW(l:fU)(c:Int)(s r:Rat):∀m,jU l m (s*r) c=s*jU l m r c:=by
 induction l with
 |nil=>grind[jU]
 |cons t l ih=>
  grind[jU]
theorem XQ(l:fU)(c:Int)(m:Rat):jU l m 0 c=0:=by have:=UW l c 0 0 m;grind
def Iu{l:fU}(h:Kw l)(c:Int):∀{m m':Rat},0<=m->m<=m'->iy l m c<=iy l m' c:=by
 induction l with
 |nil=>intro m m' _ _;rfl
 |cons t l ih=>
  intro m m' hm hle
  obtain⟨h1,h2⟩:=h.tl
  have hc:=wG h1 c
  unfold iy
  by_cases e:m<aV t
  .rw[ab e]
   by_cases e2:m'<aV t
   .grind[Rat.mul_le_mul_of_nonneg_left,aiH]
   .rw[ae e2]
    have a:=cN (xM (a:=m) (b:=aV t) kd kd) hc
    grind[UU]
  .rw[ae e,ae kd]
   have:=ih h2 (m:=m-aV t) (m':=m'-aV t) kd kd
   grind
theorem yJ{l:fU}:∀{m g:Rat},mG l m=some g->0<g:=by
 induction l with
 |nil=>intro m g h;cases h
 |cons t l ih=>
  grind[mG]
def acE{l:fU}(h:Kw l)(c:Int):∀{m g s:Rat},0<=m->mG l m=some g->0<=s->s<=g->iy l (m+s) c=iy l m c+jU l m s c:=by
 induction l with
 |nil=>intro m g s _ hg;cases hg
 |cons t l ih=>
  intro m g s hm hg hs hle
  obtain⟨h1,h2⟩:=h.tl
  unfold mG at hg
  unfold iy jU
  by_cases e:m<aV t
  .grind[Dy]
  .rw[ae e]at hg
   rw[ae e,ae e,ae kd,show m+s-aV t=m-aV t+s by grind,ih h2 kd hg hs hle]
   grind
def XR{l:fU}(c:Int)(r:Rat):∀{m g s:Rat},mG l m=some g->0<=s->s<g->jU l (m+s) r c=jU l m r c/\mG l (m+s)=some (g-s):=by
 induction l with
 |nil=>intro m g s hg;cases hg
 |cons t l ih=>
  intro m g s hg hs hlt
  unfold mG at hg⊢
  grind[jU]
def xO{l:fU}(c:Int)(r:Rat):∀{m s:Rat},mG l m=none->0<=s->iy l (m+s) c=iy l m c/\jU l (m+s) r c=0/\mG l (m+s)=none:=by
 induction l with
 |nil=>intro m s _ _;exact⟨rfl,rfl,rfl⟩
 |cons t l ih=>
  grind[mG,jU,iy]
theorem Ot(l:fU):∀m,dP l m<=l.length:=by
 induction l with
 |nil=>intro m;exact jp
 |cons t l ih=>
  grind[dP]
def Iw{l:fU}:∀{m m':Rat},m<=m'->dP l m<=dP l m':=by
 induction l with
 |nil=>intro m m' _;exact jp
 |cons t l ih=>
  intro m m' h
  unfold dP
  by_cases e:m<aV t
  .grind
  .rw[ae e,ae kd]
   have:=ih (m:=m-aV t) (m':=m'-aV t) kd
   omega
theorem acF{l:fU}:∀{m g:Rat},mG l m=some g->dP l m<dP l (m+g):=by
 induction l with
 |nil=>intro m g h;cases h
 |cons t l ih=>
  intro m g h
  unfold mG at h
  unfold dP
  by_cases e:m<aV t
  .grind
  .rw[ae e]at h
   have h1:=yJ h
   grind
def Jz{l:fU}(h:Kw l):∀{m m':Rat},0<=m->m<=m'->m-jh l m<=m'-jh l m':=by
 induction l with
 |nil=>grind[jh]
 |cons t l ih=>
  intro m m' hm hle
  obtain⟨h1,h2⟩:=h.tl
  unfold jh
  by_cases e:m<aV t
  .rw[ab e]
   by_cases e2:m'<aV t
   .rw[ab e2];grind
   .rw[ae e2]
    have a:=ih h2 (m:=0) (m':=m'-aV t) be kd
    have b:jh l 0=0:=by
     clear ih a;induction l with
     |nil=>rfl
     |cons u l ih2=>
      obtain⟨h3,h4⟩:=h2.tl
      unfold jh
      split
      .rfl
      .have:=yI h3
       have h5:aV u=0:=by grind
       rw[h5,show(0:Rat)-0=0 by grind,ih2 (λx hx=>by
        rcases bA.mp hx with rfl|hx
        .exact h1
        .exact h4 x hx) h4];grind
    grind
  .rw[ae e,ae kd]
   have:=ih h2 (m:=m-aV t) (m':=m'-aV t) kd kd
   grind
theorem Ou{l:fU}:∀{m:Rat},0<=m->m<=jr l->jh l m=m:=by
 induction l with
 |nil=>grind[jr,jh]
 |cons t l ih=>
  grind[jr,jh]
def aI{α:Type}:List α->(α->Rat)->Rat
 |[],_=>0
 |a::l,f=>f a+aI l f
section
variable {α:Type}
theorem dO{l:List α}{f g:α->Rat}(h:∀a∈l,f a=g a):aI l f=aI l g:=by
 induction l with
 |nil=>rfl
 |cons a l ih=>grind[aI]
def Dz(l:List α)(f g:α->Rat):aI l (λa=>f a+g a)=aI l f+aI l g:=by
 induction l with
 |nil=>unfold aI;grind
 |cons a l ih=>grind[aI]
def Iy(l:List α)(f g:α->Rat):aI l (λa=>f a-g a)=aI l f-aI l g:=by
 induction l with
 |nil=>unfold aI;grind
 |cons a l ih=>grind[aI]
def xP(l:List α)(s:Rat)(f:α->Rat):aI l (λa=>s*f a)=s*aI l f:=by
 induction l with
 |nil=>unfold aI;grind
 |cons a l ih=>grind[aI]
def nR{l:List α}{f g:α->Rat}(h:∀a∈l,f a<=g a):aI l f<=aI l g:=by
 induction l with
 |nil=>rfl
 |cons a l ih=>
  grind[aI]
theorem gZ{l:List α}{f:α->Rat}(h:∀a∈l,f a=0):aI l f=0:=by
 rw[dO (g:=λ_=>0) h];clear h;induction l with
 |nil=>rfl
 |cons a l ih=>grind[aI]
def ng{l:List α}{f:α->Rat}(h:∀a∈l,0<=f a):0<=aI l f:=by have:=nR (f:=λ_=>(0:Rat)) h;simp_all[gZ]
def Ej{n:Nat}(l:List α)(f:α->Nat->Rat):aB n (λi=>aI l λa=>f a i)=aI l λa=>aB n (f a):=by
 induction l with
 |nil=>exact bK λ_ _=>rfl
 |cons a l ih=>simp_all[aI,dF]
end
structure fA where
 rk:fU
 ps:List (List Nat×fU)
def y7(e:fA)(x:Rat)(c:Nat):Rat:=iy e.rk x c
def rts(e:fA)(x:Rat)(c:Nat):Rat:=jU e.rk x 1 c
def pooled(e:fA)(c:Nat):Bool:=e.ps.any λp=>p.1.contains c
def kK(e:fA)(x:Rat)(p:List Nat×fU):Rat:=aI p.1 (y7 e x)
def rY(e:fA)(x:Rat)(p:List Nat×fU):Rat:=aI p.1 (rts e x)
def pO(e:fA)(x:Rat)(c:Nat):Rat:=(if pooled e c then 0 else y7 e x c)+aI e.ps λp=>iy p.2 (kK e x p) c
def VZ(e:fA)(x:Rat):Rat:=aI e.ps λp=>iy p.2 (kK e x p) (-1)
def xQ(e:fA)(x:Rat)(c:Nat):Rat:=(if pooled e c then 0 else rts e x c)+aI e.ps λp=>jU p.2 (kK e x p) (rY e x p) c
def y8(e:fA)(x:Rat):Rat:=aI e.ps λp=>jU p.2 (kK e x p) (rY e x p) (-1)
def jv(a b:Rat):Rat:=if a<=b then a else b
theorem acG(a b:Rat):jv a b<=a/\jv a b<=b:=by grind[jv]
def DC(e:fA)(x:Rat):List (List Nat×fU)->Rat->Rat
 |[],g=>g
 |p::l,g=>match mG p.2 (kK e x p)with
  |some d=>if 0<rY e x p then DC e x l (jv g (d/rY e x p))else DC e x l g
  |none=>DC e x l g
def Iz(e:fA)(x:Rat):Option Rat:=match mG e.rk x with
 |some g=>some (DC e x e.ps g)
 |none=>none
def Ov(e:fA)(x:Rat):List (List Nat×fU)->Nat
 |[]=>0
 |p::l=>(p.2.length-dP p.2 (kK e x p))+Ov e x l
def opn(e:fA)(x:Rat):Nat:=(e.rk.length-dP e.rk x)+Ov e x e.ps
structure Ak(e:fA):Prop where
 rk:Kw e.rk
 ps:∀p∈e.ps,Kw p.2
section
variable {e:fA}
theorem aaO(h:Ak e){x:Rat}(hx:0<=x)(c:Nat):0<=y7 e x c:=UU h.rk _ hx
theorem aiJ(h:Ak e){x:Rat}(hx:0<=x)(c:Nat):0<=rts e x c:=aiI h.rk _ jj hx
def mY(h:Ak e){x:Rat}(hx:0<=x)(p:List Nat×fU):0<=kK e x p:=ng λ_ _=>aaO h hx _
def JB(h:Ak e){x:Rat}(hx:0<=x)(p:List Nat×fU):0<=rY e x p:=ng λ_ _=>aiJ h hx _
def DF(h:Ak e){x y:Rat}(hx:0<=x)(hy:x<=y)(p:List Nat×fU):kK e x p<=kK e y p:=nR λ_ _=>Iu h.rk _ hx hy
def IB(h:Ak e){x y:Rat}(hx:0<=x)(hy:x<=y)(c:Nat):pO e x c<=pO e y c:=by unfold pO;have h1:aI e.ps (λp=>iy p.2 (kK e x p) c)<=aI e.ps (λp=>iy p.2 (kK e y p) c):=nR λp hp=>Iu (h.ps p hp) _ (mY h hx p) (DF h hx hy p);have h2:y7 e x c<=y7 e y c:=Iu h.rk _ hx hy;grind
def XT(h:Ak e){x y:Rat}(hx:0<=x)(hy:x<=y):VZ e x<=VZ e y:=
 nR λp hp=>Iu (h.ps p hp) _ (mY h hx p) (DF h hx hy p)
def JC(h:Ak e){x:Rat}(hx:0<=x)(c:Nat):0<=pO e x c:=by unfold pO;have h1:0<=aI e.ps (λp=>iy p.2 (kK e x p) c):=ng λp hp=>UU (h.ps p hp) _ (mY h hx p);grind[aaO]
def qY(h:Ak e){x:Rat}(hx:0<=x)(c:Nat):0<=xQ e x c:=by unfold xQ;have h1:0<=aI e.ps (λp=>jU p.2 (kK e x p) (rY e x p) c):=ng λp hp=>aiI (h.ps p hp) _ (JB h hx p) (mY h hx p);grind[aiJ]
theorem wH(e:fA)(x:Rat):∀(l:List (List Nat×fU)) (g:Rat),DC e x l g<=g/\∀p∈l,∀d,mG p.2 (kK e x p)=some d->0<rY e x p->DC e x l g<=d/rY e x p
 |[],g=>⟨be,λp hp=>by cases hp⟩
 |p::l,g=>by
  unfold DC;cases hg:mG p.2 (kK e x p)with
  |none=>
   obtain⟨h1,h2⟩:=wH e x l g
   refine⟨h1,λq hq d hd hr=>?_⟩
   rcases bA.mp hq with rfl|hq
   .rw[hg]at hd;cases hd
   .exact h2 q hq d hd hr
  |some d0=>
   dsimp only
   by_cases hr0:0<rY e x p
   .rw[ab hr0]
    obtain⟨h1,h2⟩:=wH e x l (jv g (d0/rY e x p))
    obtain⟨h3,h4⟩:=acG g (d0/rY e x p)
    refine⟨cI h1 h3,λq hq d hd hr=>?_⟩
    rcases bA.mp hq with rfl|hq
    .rw[hg]at hd;cases hd;exact cI h1 h4
    .exact h2 q hq d hd hr
   .rw[ae hr0]
    obtain⟨h1,h2⟩:=wH e x l g
    refine⟨h1,λq hq d hd hr=>?_⟩
    rcases bA.mp hq with rfl|hq
    .exact absurd hr hr0
    .exact h2 q hq d hd hr
theorem AU(e:fA)(x:Rat):∀(l:List (List Nat×fU)) (g:Rat),DC e x l g=g\/∃p∈l,∃d,mG p.2 (kK e x p)=some d/\0<rY e x p/\DC e x l g=d/rY e x p
 |[],g=>.inl rfl
 |p::l,g=>by
  unfold DC;cases hg:mG p.2 (kK e x p)with
  |none=>
   rcases AU e x l g with h|⟨q,hq,d,h1,h2,h3⟩
   .exact .inl h
   .exact .inr ⟨q,by simp[hq],d,h1,h2,h3⟩
  |some d0=>
   dsimp only
   by_cases hr0:0<rY e x p
   .rw[ab hr0]
    rcases AU e x l (jv g (d0/rY e x p))with h|⟨q,hq,d,h1,h2,h3⟩
    .by_cases hm:g<=d0/rY e x p
     .exact .inl (by rw[h];unfold jv;rw[ab hm])
     .exact .inr ⟨p,by simp,d0,hg,hr0,by rw[h];unfold jv;rw[ae hm]⟩
    .exact .inr ⟨q,by simp[hq],d,h1,h2,h3⟩
   .rw[ae hr0]
    rcases AU e x l g with h|⟨q,hq,d,h1,h2,h3⟩
    .exact .inl h
    .exact .inr ⟨q,by simp[hq],d,h1,h2,h3⟩
theorem div_pos{a b:Rat}(ha:0<a)(hb:0<b):0<a/b:=by refine Rat.not_le.mp λhle=>?_;have h1:=bo hle (dT hb);grind[Rat.div_mul_cancel]
def Em{x g:Rat}(h:Iz e x=some g):0<g:=by grind[Iz,AU,yJ,div_pos]
theorem acH(h:Ak e){x g s:Rat}(hx:0<=x)(hg:mG e.rk x=some g)(h0:0<=s)(hs:s<=g)(c:Nat):y7 e (x+s) c=y7 e x c+s*rts e x c:=by unfold y7 rts;rw[acE h.rk _ hx hg h0 hs];have:=UW e.rk c s 1 x;grind
theorem UY(h:Ak e){x g s:Rat}(hx:0<=x)(hg:mG e.rk x=some g)(h0:0<=s)(hs:s<=g)(p:List Nat×fU):kK e (x+s) p=kK e x p+s*rY e x p:=by unfold kK rY;rw[<-xP,<-Dz];grind[dO,acH]
theorem y9{a b s:Rat}(hb:0<b)(h:s<=a/b):s*b<=a:=by grind[Rat.mul_le_mul_of_nonneg_right,Rat.div_mul_cancel]
theorem zi{a b s:Rat}(hb:0<b)(h:s<a/b):s*b<a:=by grind[Rat.mul_lt_mul_of_pos_right,Rat.div_mul_cancel]
def aiK(h:Ak e){x g s:Rat}(hx:0<=x)(hg:mG e.rk x=some g)(h0:0<=s)(hs:s<=DC e x e.ps g){p:List Nat×fU}(hp:p∈e.ps)(c:Int):
  iy p.2 (kK e (x+s) p) c=iy p.2 (kK e x p) c+s*jU p.2 (kK e x p) (rY e x p) c:=by
 obtain⟨h1,h2⟩:=wH e x e.ps g
 rw[UY h hx hg h0 (cI hs h1),<-UW]
 have hr:=JB h hx p
 have hsr:=cj h0 hr
 cases hd:mG p.2 (kK e x p)with
 |none=>
  obtain⟨a,-,-⟩:=xO (l:=p.2) c 0 hd hsr
  obtain⟨-,b,-⟩:=xO (l:=p.2) c (s*rY e x p) hd (s:=0) be
  grind
 |some d=>
  refine acE (h.ps p hp) c (mY h hx p) hd hsr ?_
  by_cases hr0:0<rY e x p
  .grind[y9]
  .have:rY e x p=0:=by grind
   rw[this];have:=yJ hd;grind
def UZ(h:Ak e){x g s:Rat}(hx:0<=x)(hg:Iz e x=some g)(h0:0<=s)(hs:s<=g)(c:Nat):pO e (x+s) c=pO e x c+s*xQ e x c:=by
 unfold Iz at hg;split at hg
 .next g0 hg0=>
  cases hg;unfold pO xQ;rw[dO (λp hp=>aiK h hx hg0 h0 hs hp c),Dz,xP,acH h hx hg0 h0 (cI hs (wH e x e.ps g0).1)];grind
 grind
def XU{x g s:Rat}(hg:mG e.rk x=some g)(h0:0<=s)(hs:s<g)(c:Nat):rts e (x+s) c=rts e x c:=(XR _ _ hg h0 hs).1
def Rk(h:Ak e){x g s:Rat}(hx:0<=x)(hg:mG e.rk x=some g)(h0:0<=s)(hs:s<DC e x e.ps g){p:List Nat×fU}(hp:p∈e.ps)(c:Int):
  jU p.2 (kK e (x+s) p) (rY e (x+s) p) c=jU p.2 (kK e x p) (rY e x p) c:=by
 obtain⟨h1,h2⟩:=wH e x e.ps g
 have hlt:s<g:=by grind
 rw[UY h hx hg h0 (dT hlt)]
 have e1:rY e (x+s) p=rY e x p:=dO λc _=>XU hg h0 hlt c
 rw[e1]
 have hr:=JB h hx p
 have hsr:=cj h0 hr
 cases hd:mG p.2 (kK e x p)with
 |none=>
  obtain⟨-,a,-⟩:=xO (l:=p.2) c (rY e x p) hd hsr
  obtain⟨-,b,-⟩:=xO (l:=p.2) c (rY e x p) hd (s:=0) be
  grind
 |some d=>
  refine(XR c _ hd hsr ?_).1
  by_cases hr0:0<rY e x p
  .grind[zi]
  .have:rY e x p=0:=by grind
   rw[this];grind[yJ]
def En(h:Ak e){x g s:Rat}(hx:0<=x)(hg:Iz e x=some g)(h0:0<=s)(hs:s<g):(∀c,xQ e (x+s) c=xQ e x c)/\y8 e (x+s)=y8 e x:=by
 unfold Iz at hg;split at hg
 .next g0 hg0=>
  cases hg;have hlt:s<g0:=by grind[wH]
  refine⟨λc=>?_,?_⟩
  .unfold xQ;rw[dO (λp hp=>Rk h hx hg0 h0 hs hp c),XU hg0 h0 hlt]
  .unfold y8;rw[dO (λp hp=>Rk h hx hg0 h0 hs hp (-1))]
 grind
def XV(h:Ak e){x s:Rat}(hg:Iz e x=none)(h0:0<=s):(∀c,pO e (x+s) c=pO e x c/\xQ e (x+s) c=0)/\VZ e (x+s)=VZ e x/\y8 e (x+s)=0/\Iz e (x+s)=none:=by
 unfold Iz at hg;split at hg
 .cases hg
 .next hn=>
  have h1:∀c,y7 e (x+s) c=y7 e x c:=λc=>(xO (l:=e.rk) c 1 hn h0).1;have h2:∀c,rts e (x+s) c=0:=λc=>(xO (l:=e.rk) c 1 hn h0).2.1;have h3:∀p,kK e (x+s) p=kK e x p:=λp=>dO λc _=>h1 c;have h4:∀p,rY e (x+s) p=0:=λp=>gZ λc _=>h2 c;refine⟨λc=>⟨?_,?_⟩,?_,?_,?_⟩
  .grind[pO]
  .grind[xQ,gZ,XQ]
  .grind[VZ]
  .grind[y8,gZ,XQ]
  .unfold Iz;rw[(xO (l:=e.rk) 0 1 hn h0).2.2]
def Eo(h:Ak e){x y:Rat}(hx:0<=x)(hy:x<=y):∀l,Ov e y l<=Ov e x l
 |[]=>jp
 |p::l=>by unfold Ov;have:=Eo h hx hy l;have:=Iw (l:=p.2) (DF h hx hy p);omega
def acI(h:Ak e){x y:Rat}(hx:0<=x)(hy:x<=y){p:List Nat×fU}(hlt:dP p.2 (kK e x p)<dP p.2 (kK e y p)):∀l,p∈l->Ov e y l<Ov e x l
 |q::l,hp=>by
  unfold Ov;have h1:=Iw (l:=q.2) (DF h hx hy q);rcases bA.mp hp with rfl|hp
  .have:=Eo h hx hy l;grind[Ot]
  .have:=acI h hx hy hlt l hp;omega
def XW(h:Ak e){x y:Rat}(hx:0<=x)(hy:x<=y):opn e y<=opn e x:=by unfold opn;have:=Eo h hx hy e.ps;have:=Iw (l:=e.rk) hy;omega
def AV(h:Ak e){x g:Rat}(hx:0<=x)(hg:Iz e x=some g):opn e (x+g)<opn e x:=by
 have hp:=Em hg;have hle:x<=x+g:=by grind
 unfold Iz at hg;split at hg
 .next g0 hg0=>
  cases hg;unfold opn;rcases AU e x e.ps g0 with h1|⟨p,hp,d,h1,h2,h3⟩
  .have a:=Eo h hx hle e.ps;grind[acF,Ot]
  .have b:dP p.2 (kK e x p)<dP p.2 (kK e (x+DC e x e.ps g0) p):=by grind[UY,wH,acF]
   have:=acI h hx hle b e.ps hp;have:=Iw (l:=e.rk) hle;omega
 grind
end
end Go.Proofs.Ins
