import Derived.Test.YtjhhfbbndfpdaaaGreatDoorYg1
set_option linter.all false
namespace Go.Proofs.Ins
def aB:Nat->(Nat->Rat)->Rat
 |0,_=>0
 |n+1,f=>aB n f+f n
theorem aP{n:Nat}{f g:Nat->Rat}(h:∀i,i<n->f i=g i):aB n f=aB n g:=by
 induction n with
 |zero=>rfl
 |succ n ih=>grind[aB]
theorem bK{n:Nat}{f:Nat->Rat}(h:∀i,i<n->f i=0):aB n f=0:=by
 induction n with
 |zero=>rfl
 |succ n ih=>grind[aB]
theorem dH(n:Nat)(f g:Nat->Rat):aB n (λi=>f i+g i)=aB n f+aB n g:=by
 induction n with
 |zero=>grind[aB]
 |succ n ih=>grind[aB]
theorem iI(n:Nat)(f g:Nat->Rat):aB n (λi=>f i-g i)=aB n f-aB n g:=by
 induction n with
 |zero=>grind[aB]
 |succ n ih=>grind[aB]
theorem gX(n:Nat)(c:Rat)(f:Nat->Rat):aB n (λi=>c*f i)=c*aB n f:=by
 induction n with
 |zero=>grind[aB]
 |succ n ih=>grind[aB]
theorem rO(n:Nat)(c:Rat)(f:Nat->Rat):aB n (λi=>f i*c)=aB n f*c:=by grind[Rat.mul_comm,gX]
def pO{n:Nat}{f g:Nat->Rat}(h:∀i,i<n->f i<=g i):aB n f<=aB n g:=by
 induction n with
 |zero=>rfl
 |succ n ih=>
  grind[aB]
theorem BX{n:Nat}{f:Nat->Rat}(h:∀i,i<n->0<=f i):0<=aB n f:=by have:=pO (n:=n) (f:=λ_=>0) (g:=f) h;simp_all[bK]
def Oc{n:Nat}{f g:Nat->Rat}(h:∀i,i<n->f i<=g i)(e:aB n g<=aB n f):∀i,i<n->f i=g i:=by
 induction n with
 |zero=>omega
 |succ n ih=>
  rw[aB,aB]at e
  have h1:=pO (n:=n) (f:=f) (g:=g) λi hi=>h i jb
  grind
theorem ZO{n:Nat}{f:Nat->Rat}(h:∀i,i<n->0<=f i)(e:aB n f<=0):∀i,i<n->f i=0:=by intro i hi;exact(Oc (f:=λ_=>0) h (by simp_all[bK]) i hi).symm
def Bl(n m:Nat)(f:Nat->Nat->Rat):aB n (λi=>aB m λj=>f i j)=aB m λj=>aB n λi=>f i j:=by
 induction n with
 |zero=>grind[bK]
 |succ n ih=>
  simp_all[aB,dH]
theorem jQ{n:Nat}{f:Nat->Rat}{k:Nat}(hk:k<n)(h:∀i,i<n->i≠k->f i=0):aB n f=f k:=by
 induction n with
 |zero=>omega
 |succ n ih=>
  grind[aB,bK]
def EO{n:Nat}{f:Nat->Rat}{k:Nat}(hk:k<n)(h:∀i,i<n->0<=f i):f k<=aB n f:=by
 induction n with
 |zero=>omega
 |succ n ih=>
  grind[aB,BX]
def mv(n:Nat)(M:Nat->Nat->Rat)(v:Nat->Rat)(j:Nat):Rat:=aB n λi=>M j i*v i
structure Nw(n:Nat)(M:Nat->Nat->Rat):Prop where
 nn:∀j i,j<n->i<n->0<=M j i
 le:∀i,i<n->aB n (λj=>M j i)<=1
def Shut(n:Nat)(M:Nat->Nat->Rat)(S:Nat->Prop):Prop:=∀i,i<n->S i->aB n (λj=>M j i)=1/\∀j,j<n->¬S j->M j i=0
def ZP{n:Nat}(M:Nat->Nat->Rat)(S:Nat->Prop)[DecidablePred S](i:Nat):aB n (λj=>M j i)=aB n (λj=>if S j then M j i else 0)+aB n (λj=>if S j then 0 else M j i):=by rw[<-dH];grind
def apD{n:Nat}{M:Nat->Nat->Rat}(hM:Nw n M)(S:Nat->Prop)[DecidablePred S]{i:Nat}(hi:i<n):aB n (λj=>if S j then M j i else 0)<=1:=by
 have h1:=hM.le i hi;rw[ZP M S i]at h1;have h2:0<=aB n (λj=>if S j then 0 else M j i):=BX λj hj=>by
  split
  .rfl
  .exact hM.nn j i hj hi
 grind
def apE{n:Nat}{M:Nat->Nat->Rat}(hM:Nw n M)(S:Nat->Prop)[DecidablePred S]{i:Nat}(hi:i<n)(h:1<=aB n (λj=>if S j then M j i else 0)):aB n (λj=>M j i)=1/\∀j,j<n->¬S j->M j i=0:=by
 have h1:=hM.le i hi;have h0:=ZP (n:=n) M S i;have h2:∀j,j<n->0<=(if S j then 0 else M j i):=λj hj=>by
  split
  .rfl
  .exact hM.nn j i hj hi
 grind[Go.Proofs.Ins.BX,Go.Proofs.Ins.ZO]
def QH{n:Nat}{M:Nat->Nat->Rat}(hM:Nw n M){w:Nat->Rat}(h:∀j,j<n->0<w j->w j<=mv n M w j):Shut n M λi=>0<w i:=by
 have h1:aB n (λj=>if 0<w j then w j else 0)<=aB n λj=>if 0<w j then mv n M w j else 0:=pO λj hj=>by grind
 have h2:(aB n λj=>if 0<w j then mv n M w j else 0)<=aB n λj=>aB n λi=>(if 0<w j then M j i else 0)*(if 0<w i then w i else 0):=pO λj hj=>by
  by_cases hp:0<w j
  .simp only[ab hp];refine pO λi hi=>?_;by_cases hq:0<w i
   .simp_all
   .simp only[ae hq];have a:=hM.nn j i hj hi;have b:w i<=0:=by grind
    have:=cP b a;grind
  simp_all[Go.Proofs.Ins.BX]
 rw[Bl]at h2;have h3:∀i,i<n->aB n (λj=>(if 0<w j then M j i else 0)*(if 0<w i then w i else 0))<=(if 0<w i then w i else 0):=λi hi=>by
  rw[rO n (if 0<w i then w i else 0) λj=>if 0<w j then M j i else 0];have a:=apD hM (λi=>0<w i) hi;have b:0<=(if 0<w i then w i else 0):=by grind
  have:=be a b;grind
 have h4:=Oc h3 (cF h1 h2);intro i hi hp;have h5:=h4 i hi;rw[rO n (if 0<w i then w i else 0) λj=>if 0<w j then M j i else 0,ab hp]at h5;refine apE hM (λi=>0<w i) hi ?_;generalize aB n (λj=>if 0<w j then M j i else 0)=z at h5⊢;have:(z-1)*w i=0:=by grind
 rcases gx.mp this with e|e<;>grind
structure Flow(n:Nat) where
 G:(Nat->Rat)->Nat->Rat
 M:(Nat->Rat)->Nat->Nat->Rat
 mono:∀x y,(∀i,i<n->0<=x i)->(∀i,i<n->x i<=y i)->∀j,j<n->G x j<=G y j
 leak:∀x y,(∀i,i<n->0<=x i)->(∀i,i<n->x i<=y i)->aB n (λi=>x i-G x i)<=aB n (λi=>y i-G y i)
 nn:∀x,(∀i,i<n->0<=x i)->∀j i,j<n->i<n->0<=M x j i
 loc:∀x d,(∀i,i<n->0<=x i)->(∀i,i<n->0<=d i)->∃ε,0<ε/\∀s,0<=s->s<=ε->∀j,j<n->G (λi=>x i+s*d i) j=G x j+s*mv n (M x) d j
def Nn(n:Nat)(x:Nat->Rat):Prop:=∀i,i<n->0<=x i
def Le(n:Nat)(x y:Nat->Rat):Prop:=∀i,i<n->x i<=y i
def bF(x d:Nat->Rat)(s:Rat)(i:Nat):Rat:=x i+s*d i
def Nn.step{n:Nat}{x d:Nat->Rat}{s:Rat}(hx:Nn n x)(hd:Nn n d)(hs:0<=s):Nn n (bF x d s):=λi hi=>by have:=hx i hi;have:=cg hs (hd i hi);unfold Ins.bF;grind
def le_step{n:Nat}{x d:Nat->Rat}{s:Rat}(hd:Nn n d)(hs:0<=s):Le n x (bF x d s):=λi hi=>by have:=cg hs (hd i hi);unfold bF;grind
def Nn.le{n:Nat}{x y:Nat->Rat}(h:Nn n x)(hl:Le n x y):Nn n y:=λi hi=>cF (h i hi) (hl i hi)
section
variable {n:Nat} (F:Flow n)
def Lin(x d:Nat->Rat)(h:Rat):Prop:=∀s,0<=s->s<=h->∀j,j<n->F.G (bF x d s) j=F.G x j+s*mv n (F.M x) d j
def Same(x d:Nat->Rat)(h:Rat):Prop:=∀s,0<=s->s<h->∀j i,j<n->i<n->F.M (bF x d s) j i=F.M x j i
theorem cancel{s a b:Rat}(hs:0<s)(h:s*a<=s*b):a<=b:=by refine gA.mp λhlt=>?_;have:=Rat.mul_lt_mul_of_pos_left hlt hs;grind
def apG{M:Nat->Nat->Rat}{k:Nat}(hk:k<n)(j:Nat):mv n M (λi=>if i=k then 1 else 0) j=M j k:=by grind[mv,jQ]
def Flow.sub{x:Nat->Rat}(hx:Nn n x):Nw n (F.M x):=by
 refine⟨F.nn x hx,λk hk=>?_⟩;have hd:Nn n (λi=>if i=k then 1 else 0):=λi _=>by grind
 obtain⟨ε,he,hl⟩:=F.loc x _ hx hd;have h1:=F.leak x (bF x _ ε) hx (le_step hd kd);have h2:aB n (λi=>bF x (λi=>if i=k then 1 else 0) ε i-F.G (bF x (λi=>if i=k then 1 else 0) ε) i)=aB n (λi=>x i-F.G x i)+(ε*1-ε*aB n (λj=>F.M x j k)):=by
  have e1:(1:Rat)=aB n (λi=>if i=k then 1 else 0):=by grind[jQ]
  have e2:ε*1-ε*aB n (λj=>F.M x j k)=aB n λj=>ε*(if j=k then 1 else 0)-ε*F.M x j k:=by rw[iI,gX,gX,<-e1]
  rw[e2,<-dH];refine aP λj hj=>?_;have:=hl ε kd aR j hj;rw[apG hk]at this;unfold bF;grind
 grind[cancel]
def aew{ε:Rat}(h:0<ε):∃s,0<s/\s<=ε/\s<=1:=by
 by_cases h1:ε<=1
 .grind
 .exact⟨1,jj,by grind,aR⟩
theorem U4{x z:Nat->Rat}(hx:Nn n x)(hz:Le n x z){j:Nat}(hj:j<n)(h:F.G z j<=F.G x j):∀i,i<n->x i<z i->F.M x j i=0:=by
 have hd:Nn n (λi=>z i-x i):=λi hi=>by have:=hz i hi;grind
 obtain⟨ε,he,hl⟩:=F.loc x _ hx hd;obtain⟨s,h1,h2,h3⟩:=aew he;have h4:=hl s kd h2 j hj;have h5:Le n (bF x (λi=>z i-x i) s) z:=λi hi=>by have:=be h3 (hd i hi);unfold bF;grind
 have h6:=F.mono _ _ (hx.step hd kd) h5 j hj;unfold bF at h6;rw[h4]at h6;have h7:s*mv n (F.M x) (λi=>z i-x i) j<=s*0:=by grind
 have h8:=cancel (a:=mv n (F.M x) (λi=>z i-x i) j) (b:=0) h1 h7;intro i hi hlt;have h9:=ZO (λi hi=>cg (F.nn x hx j i hj hi) (hd i hi)) h8 i hi;grind
def ag7{x z:Nat->Rat}(hx:Nn n x)(hz:Le n x z)(hl:aB n (λi=>z i-F.G z i)<=aB n (λi=>x i-F.G x i))(h:∀j,j<n->z j<=x j->F.G z j<=F.G x j):Shut n (F.M x) λi=>x i<z i:=by
 have hd:Nn n (λi=>z i-x i):=λi hi=>by have:=hz i hi;grind
 obtain⟨ε,he,hlin⟩:=F.loc x _ hx hd;obtain⟨s,h1,h2,h3⟩:=aew he;have h5:Le n (bF x (λi=>z i-x i) s) z:=λi hi=>by have:=be h3 (hd i hi);unfold bF;grind
 have h6:=F.leak _ _ (hx.step hd kd) h5;have h7:aB n (λi=>bF x (λi=>z i-x i) s i-F.G (bF x (λi=>z i-x i) s) i)=aB n (λi=>x i-F.G x i)+s*(aB n (λi=>z i-x i)-aB n (mv n (F.M x) λi=>z i-x i)):=by rw[<-iI,<-gX,<-dH];refine aP λj hj=>?_;have:=hlin s kd h2 j hj;unfold bF;grind
 rw[h7]at h6;have h8:s*(aB n (λi=>z i-x i)-aB n (mv n (F.M x) λi=>z i-x i))<=s*0:=by grind
 have h9:=cancel (b:=0) h1 h8;have hM:=F.sub hx;have h10:aB n (mv n (F.M x) λi=>z i-x i)=aB n λi=>aB n (λj=>F.M x j i)*(z i-x i):=by unfold mv;rw[Bl];exact aP λi _=>rO n _ _
 rw[h10]at h9;have h11:=Oc (f:=λi=>aB n (λj=>F.M x j i)*(z i-x i)) (g:=λi=>z i-x i) (λi hi=>by have:=be (hM.le i hi) (hd i hi);dsimp only at this;grind) kd
 intro i hi hlt;grind[Go.Proofs.Ins.U4]
def Fix(c:Nat->Rat)(t:Rat)(x:Nat->Rat):Prop:=∀j,j<n->x j=t*c j+F.G x j
def Pre(c:Nat->Rat)(t:Rat)(y:Nat->Rat):Prop:=∀j,j<n->t*c j+F.G y j<=y j
def Post(c:Nat->Rat)(t:Rat)(y:Nat->Rat):Prop:=∀j,j<n->y j<=t*c j+F.G y j
def Fix.leak{c:Nat->Rat}{t:Rat}{x:Nat->Rat}(h:Fix F c t x):aB n (λi=>x i-F.G x i)=aB n λi=>t*c i:=aP λi hi=>by have:=h i hi;grind
def ZQ{c:Nat->Rat}{t:Rat}{x y:Nat->Rat}(hx:Nn n x)(hf:Fix F c t x)(hno:∀S:Nat->Prop,(∃i,i<n/\S i)->¬Shut n (F.M x) S)(hy:Nn n y)(hp:Post F c t y):Le n y x:=by
 obtain⟨z,ez⟩:∃z:Nat->Rat,z=λi=>if x i<y i then y i else x i:=⟨_,rfl⟩
 have hxz:Le n x z:=λi _=>by grind
 have hyz:Le n y z:=λi _=>by grind
 have hz:Post F c t z:=λj hj=>by have h1:=F.mono _ _ hx hxz j hj;have h2:=F.mono _ _ hy hyz j hj;have h3:=hf j hj;have h4:=hp j hj;grind
 have h1:=F.leak _ _ hx hxz;have h2:=hf.leak;have h3:=pO hz;rw[dH]at h3;have h4:aB n (λi=>z i-F.G z i)=aB n z-aB n (F.G z):=iI n _ _;have hl:aB n (λi=>z i-F.G z i)<=aB n (λi=>x i-F.G x i):=by grind
 have h5:=Oc hz (by grind[dH])
 have h6:=ag7 F hx hxz hl λj hj hle=>by have:=h5 j hj;have:=hf j hj;grind
 intro i hi;grind
def akG:∀(n:Nat) (x y v:Nat->Rat) (h:Rat),0<=h->Le n x y->Nn n v->∃s,0<=s/\s<=h/\Le n (bF x v s) y/\(s=h\/∃i,i<n/\0<v i/\bF x v s i=y i)
 |0,x,y,v,h,h0,_,_=>⟨h,h0,aR,λi hi=>jb,.inl rfl⟩
 |n+1,x,y,v,h,h0,hl,hv=>by
  obtain⟨s,h1,h2,h3,h4⟩:=akG n x y v h h0 (λi hi=>hl i jb) (λi hi=>hv i jb);by_cases hc:bF x v s n<=y n
  .refine⟨s,h1,h2,λi hi=>?_,?_⟩
   .by_cases e:i=n
    .subst e;exact hc
    .exact h3 i jb
   .rcases h4 with h4|⟨i,hi,h5⟩
    .exact .inl h4
    .exact .inr ⟨i,jb,h5⟩
  .have hxn:=hl n jb;have hvn:=hv n jb;unfold bF at hc;have hp:0<v n:=by
    rcases Rat.le_iff_lt_or_eq.mp hvn with e|e
    .exact e
    .exfalso;rw[<-e]at hc;grind
   obtain⟨r,er⟩:∃r,r*v n=y n-x n:=⟨(y n-x n)/v n,dc kd⟩
   have hr0:0<=r:=by refine gA.mp λhlt=>?_;have:=dE hlt hp;grind
   have hrs:r<=s:=by refine gA.mp λhlt=>?_;have:=dE hlt hp;grind
   refine⟨r,hr0,by grind,λi hi=>?_,.inr ⟨n,jb,hp,by unfold bF;grind⟩⟩;by_cases e:i=n
   .subst e;unfold bF;grind
   .have a:=h3 i jb;have b:=be hrs (hv i jb);unfold bF at*;grind
def ZR{c:Nat->Rat}{t:Rat}{x v:Nat->Rat}{h:Rat}(hf:Fix F c t x)(hl:Lin F x v h)(hv:∀j,j<n->v j=mv n (F.M x) v j+c j){s:Rat}(h0:0<=s)(hs:s<=h):Fix F c (t+s) (bF x v s):=λj hj=>by rw[hl s h0 hs j hj];have:=hf j hj;grind[bF]
def ZT{c:Nat->Rat}{t:Rat}{x d:Nat->Rat}{h:Rat}(hf:Fix F c t x)(hl:Lin F x d h)(hd:∀j,j<n->d j=mv n (F.M x) d j){s:Rat}(h0:0<=s)(hs:s<=h):Fix F c t (bF x d s):=λj hj=>by rw[hl s h0 hs j hj];have:=hf j hj;grind[bF]
def Least(c:Nat->Rat)(t:Rat)(x:Nat->Rat):Prop:=∀t' y,Nn n y->Pre F c t' y->(t<t'\/(t=1/\t'=1))->Le n x y
theorem Least.zero(c:Nat->Rat)(t:Rat):Least F c t λ_=>0:=λ_ _ hy _ _ i hi=>hy i hi
def touch{c:Nat->Rat}{t t':Rat}{z y:Nat->Rat}(hz:Nn n z)(hzy:Le n z y)(hc:∀j,j<n->0<=c j)(hf:Fix F c t z)(hp:Pre F c t' y)(ht:t<t'){j:Nat}(hj:j<n)(he:y j<=z j):
  c j=0/\∀i,i<n->z i<y i->F.M z j i=0:=by
 have h1:=F.mono _ _ hz hzy j hj
 have h2:=hf j hj
 have h3:=hp j hj
 have h4:(t'-t)*c j<=0:=by grind
 have h5:c j<=0:=cancel (s:=t'-t) kd kd
 have h6:c j=0:=by grind
 refine⟨h6,U4 F hz hzy hj (by rw[h6]at h2 h3;grind)⟩
def acv{c:Nat->Rat}{t:Rat}{x v:Nat->Rat}{h:Rat}(hx:Nn n x)(hv:Nn n v)(hc:∀j,j<n->0<=c j)(h0:0<=h)(hf:Fix F c t x)(hl:Lin F x v h)(hsm:Same F x v h)
  (hvm:∀j,j<n->v j=mv n (F.M x) v j+c j) (hno:∀S:Nat->Prop,(∃i,i<n/\S i)->(∀i,i<n->S i->0<v i)->¬Shut n (F.M x) S) (ht:t<1) (hL:Least F c t x):Least F c (t+h) (bF x v h):=by
 intro t' y hy hp ht'
 have hxy:Le n x y:=hL t' y hy hp (.inl kd)
 obtain⟨s,h1,h2,h3,h4⟩:=akG n x y v h h0 hxy hv
 rcases h4 with h4|⟨i,hi,hvi,hti⟩
 .grind
 by_cases hsh:s<h
 .exfalso
  have hz:=hx.step hv h1
  have hfz:=ZR F hf hl hvm h1 (ec hsh)
  have htz:t+s<t':=by grind
  have WW:=λj hj he=>touch F (j:=j) hz h3 hc hfz hp htz hj he
  obtain⟨w,ew⟩:∃w:Nat->Rat,w=λi=>if bF x v s i=y i then v i else 0:=⟨_,rfl⟩
  have hM:=F.sub hx
  have hws:=QH hM (w:=w) λj hj hw=>by
   have e:w j=if bF x v s j=y j then v j else 0:=by rw[ew]
   by_cases hq:bF x v s j=y j
   .rw[ab hq]at e;obtain⟨hc0,hm0⟩:=WW j hj kd;have a:mv n (F.M x) w j=mv n (F.M x) v j:=aP λk hk=>by
     rw[ew];dsimp only;by_cases hk2:bF x v s k=y k
     .grind
     .have b:=hm0 k hk (by have:=h3 k hk;grind);rw[hsm s h1 hsh j k hj hk]at b;grind
    grind
   grind
  refine hno (λi=>0<w i) ⟨i,hi,?_⟩ (λk hk hw=>?_) hws
  .grind
  grind
 grind
def acw{c:Nat->Rat}{t:Rat}{x d:Nat->Rat}{h:Rat}(hx:Nn n x)(hd:Nn n d)(hc:∀j,j<n->0<=c j)(h0:0<=h)(hf:Fix F c t x)(hl:Lin F x d h)(hsm:Same F x d h)
  (hdm:∀j,j<n->d j=mv n (F.M x) d j) (hre:∀E:Nat->Prop,(∃i,i<n/\E i/\0<d i)->(∀j,j<n->E j->c j=0)->(∀j i,j<n->i<n->E j->F.M x j i≠0->E i)->False)
  (ht:t<1) (hL:Least F c t x):Least F c t (bF x d h):=by
 intro t' y hy hp ht'
 have hxy:Le n x y:=hL t' y hy hp ht'
 obtain⟨s,h1,h2,h3,h4⟩:=akG n x y d h h0 hxy hd
 rcases h4 with h4|⟨i,hi,hvi,hti⟩
 .grind
 by_cases hsh:s<h
 .exfalso
  have hz:=hx.step hd h1
  have hfz:=ZT F hf hl hdm h1 (ec hsh)
  have WW:=λj hj he=>touch F (j:=j) hz h3 hc hfz hp kd hj he
  refine hre (λi=>bF x d s i=y i) ⟨i,hi,hti,hvi⟩ (λj hj he=>(WW j hj kd).1) λj k hj hk he hne=>?_
  refine br λhk2=>hne ?_
  have b:=(WW j hj kd).2 k hk (by have:=h3 k hk;grind)
  rwa[hsm s h1 hsh j k hj hk]at b
 grind
end
abbrev dJ:=List (Int×Rat)
def aX:dJ->Rat
 |[]=>0
 |p::t=>p.2+aX t
def gQ:dJ->Int->Rat
 |[],_=>0
 |p::t,c=>(if p.1=c then p.2 else 0)+gQ t c
def NnT(t:dJ):Prop:=∀p∈t,0<=p.2
theorem xW{t:dJ}(h:NnT t)(c:Int):0<=gQ t c:=by
 induction t with
 |nil=>rfl
 |cons p t ih=>
  have h1:=ih λq hq=>h q (by simp[hq])
  have h2:=h p kc
  grind[gQ]
theorem Oe{t:dJ}(h:NnT t)(c:Int):gQ t c<=aX t:=by
 induction t with
 |nil=>rfl
 |cons p t ih=>
  have h1:=ih λq hq=>h q (by simp[hq])
  have h2:=h p kc
  grind[gQ,aX]
def zW{t:dJ}(h:NnT t):0<=aX t:=cF (xW h 0) (Oe h 0)
abbrev gI:=List dJ
def MW(l:gI):Prop:=∀t∈l,NnT t
def iE:gI->Rat->Int->Rat
 |[],_,_=>0
 |t::l,m,c=>if m<aX t then gQ t c*(m/aX t)else gQ t c+iE l (m-aX t) c
def kN:gI->Rat->Rat->Int->Rat
 |[],_,_,_=>0
 |t::l,m,r,c=>if m<aX t then gQ t c*(r/aX t)else kN l (m-aX t) r c
def nZ:gI->Rat->Option Rat
 |[],_=>none
 |t::l,m=>if m<aX t then some (aX t-m)else nZ l (m-aX t)
def dS:gI->Rat->Nat
 |[],_=>0
 |t::l,m=>if m<aX t then 0 else dS l (m-aX t)+1
def jC:gI->Rat->Rat
 |[],_=>0
 |t::l,m=>if m<aX t then m else aX t+jC l (m-aX t)
def jR:gI->Rat
 |[]=>0
 |t::l=>aX t+jR l
def MW.tl{t:dJ}{l:gI}(h:MW (t::l)):NnT t/\MW l:=⟨h t kc,λu hu=>h u (by simp[hu])⟩
theorem acy{a b:Rat}(ha:0<=a)(hb:0<b):0<=a/b:=by refine gA.mp λhlt=>?_;have h1:=dE hlt hb;grind[Rat.div_mul_cancel]
def yQ{a b:Rat}(hb:0<b)(h:a<=b):a/b<=1:=by refine gA.mp λhlt=>?_;grind[Rat.mul_lt_mul_of_pos_right,Rat.div_mul_cancel]
theorem akH{a b c:Rat}(hb:0<b)(h:a<=c):a/b<=c/b:=by refine gA.mp λhlt=>?_;grind[Rat.mul_lt_mul_of_pos_right,Rat.div_mul_cancel]
theorem ER{l:gI}(h:MW l)(c:Int):iE l 0 c=0:=by
 induction l with
 |nil=>rfl
 |cons t l ih=>
  obtain⟨h1,h2⟩:=h.tl
  grind[iE,xW,Oe]
theorem WY{l:gI}(h:MW l)(c:Int):∀{m:Rat},0<=m->0<=iE l m c:=by
 induction l with
 |nil=>intro m _;rfl
 |cons t l ih=>
  intro m hm
  obtain⟨h1,h2⟩:=h.tl
  grind[iE,xW,Rat.mul_nonneg,acy]
def akI{l:gI}(h:MW l)(c:Int){r:Rat}(hr:0<=r):∀{m:Rat},0<=m->0<=kN l m r c:=by
 induction l with
 |nil=>intro m _;rfl
 |cons t l ih=>
  intro m hm
  obtain⟨h1,h2⟩:=h.tl
  grind[kN,Rat.mul_nonneg,xW,acy]
def WZ(l:gI)(c:Int)(s r:Rat):∀m,kN l m (s*r) c=s*kN l m r c:=by
 induction l with
 |nil=>grind[kN]
 |cons t l ih=>
  grind[kN]
theorem ZU(l:gI)(c:Int)(m:Rat):kN l m 0 c=0:=by have:=WZ l c 0 0 m;grind
def ES{l:gI}(h:MW l)(c:Int):∀{m m':Rat},0<=m->m<=m'->iE l m c<=iE l m' c:=by
 induction l with
 |nil=>intro m m' _ _;rfl
 |cons t l ih=>
  intro m m' hm hle
  obtain⟨h1,h2⟩:=h.tl
  have hc:=xW h1 c
  unfold iE
  by_cases e:m<aX t
  .rw[ab e]
   by_cases e2:m'<aX t
   .grind[Rat.mul_le_mul_of_nonneg_left,akH]
   .rw[ae e2]
    have a:=cP (yQ (a:=m) (b:=aX t) kd kd) hc
    grind[WY]
  .rw[ae e,ae kd]
   have:=ih h2 (m:=m-aX t) (m':=m'-aX t) kd kd
   grind
theorem zX{l:gI}:∀{m g:Rat},nZ l m=some g->0<g:=by
 induction l with
 |nil=>intro m g h;cases h
 |cons t l ih=>
  grind[nZ]
def aex{l:gI}(h:MW l)(c:Int):∀{m g s:Rat},0<=m->nZ l m=some g->0<=s->s<=g->iE l (m+s) c=iE l m c+kN l m s c:=by
 induction l with
 |nil=>intro m g s _ hg;cases hg
 |cons t l ih=>
  intro m g s hm hg hs hle
  obtain⟨h1,h2⟩:=h.tl
  unfold nZ at hg
  unfold iE kN
  by_cases e:m<aX t
  .grind[ER]
  .rw[ae e]at hg
   rw[ae e,ae e,ae kd,show m+s-aX t=m-aX t+s by grind,ih h2 kd hg hs hle]
   grind
def ZV{l:gI}(c:Int)(r:Rat):∀{m g s:Rat},nZ l m=some g->0<=s->s<g->kN l (m+s) r c=kN l m r c/\nZ l (m+s)=some (g-s):=by
 induction l with
 |nil=>intro m g s hg;cases hg
 |cons t l ih=>
  intro m g s hg hs hlt
  unfold nZ at hg⊢
  grind[kN]
def yR{l:gI}(c:Int)(r:Rat):∀{m s:Rat},nZ l m=none->0<=s->iE l (m+s) c=iE l m c/\kN l (m+s) r c=0/\nZ l (m+s)=none:=by
 induction l with
 |nil=>intro m s _ _;exact⟨rfl,rfl,rfl⟩
 |cons t l ih=>
  grind[nZ,kN,iE]
theorem QI(l:gI):∀m,dS l m<=l.length:=by
 induction l with
 |nil=>intro m;exact jp
 |cons t l ih=>
  grind[dS]
def JC{l:gI}:∀{m m':Rat},m<=m'->dS l m<=dS l m':=by
 induction l with
 |nil=>intro m m' _;exact jp
 |cons t l ih=>
  intro m m' h
  unfold dS
  by_cases e:m<aX t
  .grind
  .rw[ae e,ae kd]
   have:=ih (m:=m-aX t) (m':=m'-aX t) kd
   omega
theorem aey{l:gI}:∀{m g:Rat},nZ l m=some g->dS l m<dS l (m+g):=by
 induction l with
 |nil=>intro m g h;cases h
 |cons t l ih=>
  intro m g h
  unfold nZ at h
  unfold dS
  by_cases e:m<aX t
  .grind
  .rw[ae e]at h
   have h1:=zX h
   grind
def Lc{l:gI}(h:MW l):∀{m m':Rat},0<=m->m<=m'->m-jC l m<=m'-jC l m':=by
 induction l with
 |nil=>grind[jC]
 |cons t l ih=>
  intro m m' hm hle
  obtain⟨h1,h2⟩:=h.tl
  unfold jC
  by_cases e:m<aX t
  .rw[ab e]
   by_cases e2:m'<aX t
   .rw[ab e2];grind
   .rw[ae e2]
    have a:=ih h2 (m:=0) (m':=m'-aX t) aR kd
    have b:jC l 0=0:=by
     clear ih a;induction l with
     |nil=>rfl
     |cons u l ih2=>
      obtain⟨h3,h4⟩:=h2.tl
      unfold jC
      split
      .rfl
      .have:=zW h3
       have h5:aX u=0:=by grind
       rw[h5,show(0:Rat)-0=0 by grind,ih2 (λx hx=>by
        rcases bw.mp hx with rfl|hx
        .exact h1
        .exact h4 x hx) h4];grind
    grind
  .rw[ae e,ae kd]
   have:=ih h2 (m:=m-aX t) (m':=m'-aX t) kd kd
   grind
theorem QJ{l:gI}:∀{m:Rat},0<=m->m<=jR l->jC l m=m:=by
 induction l with
 |nil=>grind[jR,jC]
 |cons t l ih=>
  grind[jR,jC]
def aK{α:Type}:List α->(α->Rat)->Rat
 |[],_=>0
 |a::l,f=>f a+aK l f
section
variable {α:Type}
theorem eX{l:List α}{f g:α->Rat}(h:∀a∈l,f a=g a):aK l f=aK l g:=by
 induction l with
 |nil=>rfl
 |cons a l ih=>grind[aK]
def ET(l:List α)(f g:α->Rat):aK l (λa=>f a+g a)=aK l f+aK l g:=by
 induction l with
 |nil=>unfold aK;grind
 |cons a l ih=>grind[aK]
def QL(l:List α)(f g:α->Rat):aK l (λa=>f a-g a)=aK l f-aK l g:=by
 induction l with
 |nil=>unfold aK;grind
 |cons a l ih=>grind[aK]
def yS(l:List α)(s:Rat)(f:α->Rat):aK l (λa=>s*f a)=s*aK l f:=by
 induction l with
 |nil=>unfold aK;grind
 |cons a l ih=>grind[aK]
def vP{l:List α}{f g:α->Rat}(h:∀a∈l,f a<=g a):aK l f<=aK l g:=by
 induction l with
 |nil=>rfl
 |cons a l ih=>
  grind[aK]
theorem jo{l:List α}{f:α->Rat}(h:∀a∈l,f a=0):aK l f=0:=by
 rw[eX (g:=λ_=>0) h];clear h;induction l with
 |nil=>rfl
 |cons a l ih=>grind[aK]
def oL{l:List α}{f:α->Rat}(h:∀a∈l,0<=f a):0<=aK l f:=by have:=vP (f:=λ_=>(0:Rat)) h;simp_all[jo]
def FP{n:Nat}(l:List α)(f:α->Nat->Rat):aB n (λi=>aK l λa=>f a i)=aK l λa=>aB n (f a):=by
 induction l with
 |nil=>exact bK λ_ _=>rfl
 |cons a l ih=>simp_all[aK,dH]
end
structure fC where
 rk:gI
 ps:List (List Nat×gI)
def AU(e:fC)(x:Rat)(c:Nat):Rat:=iE e.rk x c
def rts(e:fC)(x:Rat)(c:Nat):Rat:=kN e.rk x 1 c
def pooled(e:fC)(c:Nat):Bool:=e.ps.any λp=>p.1.contains c
def lU(e:fC)(x:Rat)(p:List Nat×gI):Rat:=aK p.1 (AU e x)
def uG(e:fC)(x:Rat)(p:List Nat×gI):Rat:=aK p.1 (rts e x)
def uI(e:fC)(x:Rat)(c:Nat):Rat:=(if pooled e c then 0 else AU e x c)+aK e.ps λp=>iE p.2 (lU e x p) c
def rsv(e:fC)(x:Rat):Rat:=aK e.ps λp=>iE p.2 (lU e x p) (-1)
def yT(e:fC)(x:Rat)(c:Nat):Rat:=(if pooled e c then 0 else rts e x c)+aK e.ps λp=>kN p.2 (lU e x p) (uG e x p) c
def Au(e:fC)(x:Rat):Rat:=aK e.ps λp=>kN p.2 (lU e x p) (uG e x p) (-1)
def kS(a b:Rat):Rat:=if a<=b then a else b
theorem aez(a b:Rat):kS a b<=a/\kS a b<=b:=by grind[kS]
def EU(e:fC)(x:Rat):List (List Nat×gI)->Rat->Rat
 |[],g=>g
 |p::l,g=>match nZ p.2 (lU e x p)with
  |some d=>if 0<uG e x p then EU e x l (kS g (d/uG e x p))else EU e x l g
  |none=>EU e x l g
def JD(e:fC)(x:Rat):Option Rat:=match nZ e.rk x with
 |some g=>some (EU e x e.ps g)
 |none=>none
def QM(e:fC)(x:Rat):List (List Nat×gI)->Nat
 |[]=>0
 |p::l=>(p.2.length-dS p.2 (lU e x p))+QM e x l
def opn(e:fC)(x:Rat):Nat:=(e.rk.length-dS e.rk x)+QM e x e.ps
structure BZ(e:fC):Prop where
 rk:MW e.rk
 ps:∀p∈e.ps,MW p.2
section
variable {e:fC}
theorem acz(h:BZ e){x:Rat}(hx:0<=x)(c:Nat):0<=AU e x c:=WY h.rk _ hx
theorem akJ(h:BZ e){x:Rat}(hx:0<=x)(c:Nat):0<=rts e x c:=akI h.rk _ jj hx
def oG(h:BZ e){x:Rat}(hx:0<=x)(p:List Nat×gI):0<=lU e x p:=oL λ_ _=>acz h hx _
def Lh(h:BZ e){x:Rat}(hx:0<=x)(p:List Nat×gI):0<=uG e x p:=oL λ_ _=>akJ h hx _
def EW(h:BZ e){x y:Rat}(hx:0<=x)(hy:x<=y)(p:List Nat×gI):lU e x p<=lU e y p:=vP λ_ _=>ES h.rk _ hx hy
def JE(h:BZ e){x y:Rat}(hx:0<=x)(hy:x<=y)(c:Nat):uI e x c<=uI e y c:=by unfold uI;have h1:aK e.ps (λp=>iE p.2 (lU e x p) c)<=aK e.ps (λp=>iE p.2 (lU e y p) c):=vP λp hp=>ES (h.ps p hp) _ (oG h hx p) (EW h hx hy p);have h2:AU e x c<=AU e y c:=ES h.rk _ hx hy;grind
def akK(h:BZ e){x y:Rat}(hx:0<=x)(hy:x<=y):rsv e x<=rsv e y:=
 vP λp hp=>ES (h.ps p hp) _ (oG h hx p) (EW h hx hy p)
def Lj(h:BZ e){x:Rat}(hx:0<=x)(c:Nat):0<=uI e x c:=by unfold uI;have h1:0<=aK e.ps (λp=>iE p.2 (lU e x p) c):=oL λp hp=>WY (h.ps p hp) _ (oG h hx p);grind[acz]
def tN(h:BZ e){x:Rat}(hx:0<=x)(c:Nat):0<=yT e x c:=by unfold yT;have h1:0<=aK e.ps (λp=>kN p.2 (lU e x p) (uG e x p) c):=oL λp hp=>akI (h.ps p hp) _ (Lh h hx p) (oG h hx p);grind[akJ]
theorem xX(e:fC)(x:Rat):∀(l:List (List Nat×gI)) (g:Rat),EU e x l g<=g/\∀p∈l,∀d,nZ p.2 (lU e x p)=some d->0<uG e x p->EU e x l g<=d/uG e x p
 |[],g=>⟨aR,λp hp=>by cases hp⟩
 |p::l,g=>by
  unfold EU;cases hg:nZ p.2 (lU e x p)with
  |none=>
   obtain⟨h1,h2⟩:=xX e x l g
   refine⟨h1,λq hq d hd hr=>?_⟩
   rcases bw.mp hq with rfl|hq
   .rw[hg]at hd;cases hd
   .exact h2 q hq d hd hr
  |some d0=>
   dsimp only
   by_cases hr0:0<uG e x p
   .rw[ab hr0]
    obtain⟨h1,h2⟩:=xX e x l (kS g (d0/uG e x p))
    obtain⟨h3,h4⟩:=aez g (d0/uG e x p)
    refine⟨cF h1 h3,λq hq d hd hr=>?_⟩
    rcases bw.mp hq with rfl|hq
    .rw[hg]at hd;cases hd;exact cF h1 h4
    .exact h2 q hq d hd hr
   .rw[ae hr0]
    obtain⟨h1,h2⟩:=xX e x l g
    refine⟨h1,λq hq d hd hr=>?_⟩
    rcases bw.mp hq with rfl|hq
    .exact absurd hr hr0
    .exact h2 q hq d hd hr
theorem Cb(e:fC)(x:Rat):∀(l:List (List Nat×gI)) (g:Rat),EU e x l g=g\/∃p∈l,∃d,nZ p.2 (lU e x p)=some d/\0<uG e x p/\EU e x l g=d/uG e x p
 |[],g=>.inl rfl
 |p::l,g=>by
  unfold EU;cases hg:nZ p.2 (lU e x p)with
  |none=>
   rcases Cb e x l g with h|⟨q,hq,d,h1,h2,h3⟩
   .exact .inl h
   .exact .inr ⟨q,by simp[hq],d,h1,h2,h3⟩
  |some d0=>
   dsimp only
   by_cases hr0:0<uG e x p
   .rw[ab hr0]
    rcases Cb e x l (kS g (d0/uG e x p))with h|⟨q,hq,d,h1,h2,h3⟩
    .by_cases hm:g<=d0/uG e x p
     .exact .inl (by rw[h];unfold kS;rw[ab hm])
     .exact .inr ⟨p,by simp,d0,hg,hr0,by rw[h];unfold kS;rw[ae hm]⟩
    .exact .inr ⟨q,by simp[hq],d,h1,h2,h3⟩
   .rw[ae hr0]
    rcases Cb e x l g with h|⟨q,hq,d,h1,h2,h3⟩
    .exact .inl h
    .exact .inr ⟨q,by simp[hq],d,h1,h2,h3⟩
theorem div_pos{a b:Rat}(ha:0<a)(hb:0<b):0<a/b:=by refine Rat.not_le.mp λhle=>?_;have h1:=be hle (ec hb);grind[Rat.div_mul_cancel]
def FQ{x g:Rat}(h:JD e x=some g):0<g:=by grind[JD,Cb,zX,div_pos]
theorem aeA(h:BZ e){x g s:Rat}(hx:0<=x)(hg:nZ e.rk x=some g)(h0:0<=s)(hs:s<=g)(c:Nat):AU e (x+s) c=AU e x c+s*rts e x c:=by unfold AU rts;rw[aex h.rk _ hx hg h0 hs];have:=WZ e.rk c s 1 x;grind
theorem W9(h:BZ e){x g s:Rat}(hx:0<=x)(hg:nZ e.rk x=some g)(h0:0<=s)(hs:s<=g)(p:List Nat×gI):lU e (x+s) p=lU e x p+s*uG e x p:=by unfold lU uG;rw[<-yS,<-ET];grind[eX,aeA]
theorem Aw{a b s:Rat}(hb:0<b)(h:s<=a/b):s*b<=a:=by grind[Rat.mul_le_mul_of_nonneg_right,Rat.div_mul_cancel]
theorem Az{a b s:Rat}(hb:0<b)(h:s<a/b):s*b<a:=by grind[Rat.mul_lt_mul_of_pos_right,Rat.div_mul_cancel]
def akL(h:BZ e){x g s:Rat}(hx:0<=x)(hg:nZ e.rk x=some g)(h0:0<=s)(hs:s<=EU e x e.ps g){p:List Nat×gI}(hp:p∈e.ps)(c:Int):
  iE p.2 (lU e (x+s) p) c=iE p.2 (lU e x p) c+s*kN p.2 (lU e x p) (uG e x p) c:=by
 obtain⟨h1,h2⟩:=xX e x e.ps g
 rw[W9 h hx hg h0 (cF hs h1),<-WZ]
 have hr:=Lh h hx p
 have hsr:=cg h0 hr
 cases hd:nZ p.2 (lU e x p)with
 |none=>
  obtain⟨a,-,-⟩:=yR (l:=p.2) c 0 hd hsr
  obtain⟨-,b,-⟩:=yR (l:=p.2) c (s*uG e x p) hd (s:=0) aR
  grind
 |some d=>
  refine aex (h.ps p hp) c (oG h hx p) hd hsr ?_
  by_cases hr0:0<uG e x p
  .grind[Aw]
  .have:uG e x p=0:=by grind
   rw[this];have:=zX hd;grind
def Xa(h:BZ e){x g s:Rat}(hx:0<=x)(hg:JD e x=some g)(h0:0<=s)(hs:s<=g)(c:Nat):uI e (x+s) c=uI e x c+s*yT e x c:=by
 unfold JD at hg;split at hg
 .next g0 hg0=>
  cases hg;unfold uI yT;rw[eX (λp hp=>akL h hx hg0 h0 hs hp c),ET,yS,aeA h hx hg0 h0 (cF hs (xX e x e.ps g0).1)];grind
 grind
def ZW{x g s:Rat}(hg:nZ e.rk x=some g)(h0:0<=s)(hs:s<g)(c:Nat):rts e (x+s) c=rts e x c:=(ZV _ _ hg h0 hs).1
def U5(h:BZ e){x g s:Rat}(hx:0<=x)(hg:nZ e.rk x=some g)(h0:0<=s)(hs:s<EU e x e.ps g){p:List Nat×gI}(hp:p∈e.ps)(c:Int):
  kN p.2 (lU e (x+s) p) (uG e (x+s) p) c=kN p.2 (lU e x p) (uG e x p) c:=by
 obtain⟨h1,h2⟩:=xX e x e.ps g
 have hlt:s<g:=by grind
 rw[W9 h hx hg h0 (ec hlt)]
 have e1:uG e (x+s) p=uG e x p:=eX λc _=>ZW hg h0 hlt c
 rw[e1]
 have hr:=Lh h hx p
 have hsr:=cg h0 hr
 cases hd:nZ p.2 (lU e x p)with
 |none=>
  obtain⟨-,a,-⟩:=yR (l:=p.2) c (uG e x p) hd hsr
  obtain⟨-,b,-⟩:=yR (l:=p.2) c (uG e x p) hd (s:=0) aR
  grind
 |some d=>
  refine(ZV c _ hd hsr ?_).1
  by_cases hr0:0<uG e x p
  .grind[Az]
  .have:uG e x p=0:=by grind
   rw[this];grind[zX]
def FT(h:BZ e){x g s:Rat}(hx:0<=x)(hg:JD e x=some g)(h0:0<=s)(hs:s<g):(∀c,yT e (x+s) c=yT e x c)/\Au e (x+s)=Au e x:=by
 unfold JD at hg;split at hg
 .next g0 hg0=>
  cases hg;have hlt:s<g0:=by grind[xX]
  refine⟨λc=>?_,?_⟩
  .unfold yT;rw[eX (λp hp=>U5 h hx hg0 h0 hs hp c),ZW hg0 h0 hlt]
  .unfold Au;rw[eX (λp hp=>U5 h hx hg0 h0 hs hp (-1))]
 grind
def ZX(h:BZ e){x s:Rat}(hg:JD e x=none)(h0:0<=s):(∀c,uI e (x+s) c=uI e x c/\yT e (x+s) c=0)/\rsv e (x+s)=rsv e x/\Au e (x+s)=0/\JD e (x+s)=none:=by
 unfold JD at hg;split at hg
 .cases hg
 .next hn=>
  have h1:∀c,AU e (x+s) c=AU e x c:=λc=>(yR (l:=e.rk) c 1 hn h0).1;have h2:∀c,rts e (x+s) c=0:=λc=>(yR (l:=e.rk) c 1 hn h0).2.1;have h3:∀p,lU e (x+s) p=lU e x p:=λp=>eX λc _=>h1 c;have h4:∀p,uG e (x+s) p=0:=λp=>jo λc _=>h2 c;refine⟨λc=>⟨?_,?_⟩,?_,?_,?_⟩
  .grind[uI]
  .grind[yT,jo,ZU]
  .grind[rsv]
  .grind[Au,jo,ZU]
  .unfold JD;rw[(yR (l:=e.rk) 0 1 hn h0).2.2]
def FU(h:BZ e){x y:Rat}(hx:0<=x)(hy:x<=y):∀l,QM e y l<=QM e x l
 |[]=>jp
 |p::l=>by unfold QM;have:=FU h hx hy l;have:=JC (l:=p.2) (EW h hx hy p);omega
def aeB(h:BZ e){x y:Rat}(hx:0<=x)(hy:x<=y){p:List Nat×gI}(hlt:dS p.2 (lU e x p)<dS p.2 (lU e y p)):∀l,p∈l->QM e y l<QM e x l
 |q::l,hp=>by
  unfold QM;have h1:=JC (l:=q.2) (EW h hx hy q);rcases bw.mp hp with rfl|hp
  .have:=FU h hx hy l;grind[QI]
  .have:=aeB h hx hy hlt l hp;omega
def ZY(h:BZ e){x y:Rat}(hx:0<=x)(hy:x<=y):opn e y<=opn e x:=by unfold opn;have:=FU h hx hy e.ps;have:=JC (l:=e.rk) hy;omega
def Cc(h:BZ e){x g:Rat}(hx:0<=x)(hg:JD e x=some g):opn e (x+g)<opn e x:=by
 have hp:=FQ hg;have hle:x<=x+g:=by grind
 unfold JD at hg;split at hg
 .next g0 hg0=>
  cases hg;unfold opn;rcases Cb e x e.ps g0 with h1|⟨p,hp,d,h1,h2,h3⟩
  .have a:=FU h hx hle e.ps;grind[aey,QI]
  .have b:dS p.2 (lU e x p)<dS p.2 (lU e (x+EU e x e.ps g0) p):=by grind[W9,xX,aey]
   have:=aeB h hx hle b e.ps hp;have:=JC (l:=e.rk) hle;omega
 grind
end
end Go.Proofs.Ins
