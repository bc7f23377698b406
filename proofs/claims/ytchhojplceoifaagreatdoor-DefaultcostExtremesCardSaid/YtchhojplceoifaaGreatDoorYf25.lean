import Derived.Test.YtchhojplceoifaaGreatDoorYf1
set_option linter.all false
namespace Go.Proofs.Ins
def aB:Nat->(Nat->Rat)->Rat
 |0,_=>0
 |n+1,f=>aB n f+f n
theorem aQ{n:Nat}{f g:Nat->Rat}(h:∀i,i<n->f i=g i):aB n f=aB n g:=by
 induction n with
 |zero=>rfl
 |succ n ih=>grind[aB]
theorem bK{n:Nat}{f:Nat->Rat}(h:∀i,i<n->f i=0):aB n f=0:=by
 induction n with
 |zero=>rfl
 |succ n ih=>grind[aB]
theorem dF(n:Nat)(f g:Nat->Rat):aB n (λi=>f i+g i)=aB n f+aB n g:=by
 induction n with
 |zero=>grind[aB]
 |succ n ih=>grind[aB]
theorem iH(n:Nat)(f g:Nat->Rat):aB n (λi=>f i-g i)=aB n f-aB n g:=by
 induction n with
 |zero=>grind[aB]
 |succ n ih=>grind[aB]
theorem gQ(n:Nat)(c:Rat)(f:Nat->Rat):aB n (λi=>c*f i)=c*aB n f:=by
 induction n with
 |zero=>grind[aB]
 |succ n ih=>grind[aB]
theorem ru(n:Nat)(c:Rat)(f:Nat->Rat):aB n (λi=>f i*c)=aB n f*c:=by grind[Rat.mul_comm,gQ]
def oO{n:Nat}{f g:Nat->Rat}(h:∀i,i<n->f i<=g i):aB n f<=aB n g:=by
 induction n with
 |zero=>rfl
 |succ n ih=>
  grind[aB]
theorem BP{n:Nat}{f:Nat->Rat}(h:∀i,i<n->0<=f i):0<=aB n f:=by have:=oO (n:=n) (f:=λ_=>0) (g:=f) h;simp_all[bK]
def MQ{n:Nat}{f g:Nat->Rat}(h:∀i,i<n->f i<=g i)(e:aB n g<=aB n f):∀i,i<n->f i=g i:=by
 induction n with
 |zero=>omega
 |succ n ih=>
  rw[aB,aB]at e
  have h1:=oO (n:=n) (f:=f) (g:=g) λi hi=>h i jb
  grind
theorem YG{n:Nat}{f:Nat->Rat}(h:∀i,i<n->0<=f i)(e:aB n f<=0):∀i,i<n->f i=0:=by intro i hi;exact(MQ (f:=λ_=>0) h (by simp_all[bK]) i hi).symm
def Bc(n m:Nat)(f:Nat->Nat->Rat):aB n (λi=>aB m λj=>f i j)=aB m λj=>aB n λi=>f i j:=by
 induction n with
 |zero=>grind[bK]
 |succ n ih=>
  simp_all[aB,dF]
theorem jE{n:Nat}{f:Nat->Rat}{k:Nat}(hk:k<n)(h:∀i,i<n->i≠k->f i=0):aB n f=f k:=by
 induction n with
 |zero=>omega
 |succ n ih=>
  grind[aB,bK]
def Ef{n:Nat}{f:Nat->Rat}{k:Nat}(hk:k<n)(h:∀i,i<n->0<=f i):f k<=aB n f:=by
 induction n with
 |zero=>omega
 |succ n ih=>
  grind[aB,BP]
def mv(n:Nat)(M:Nat->Nat->Rat)(v:Nat->Rat)(j:Nat):Rat:=aB n λi=>M j i*v i
structure LQ(n:Nat)(M:Nat->Nat->Rat):Prop where
 nn:∀j i,j<n->i<n->0<=M j i
 le:∀i,i<n->aB n (λj=>M j i)<=1
def Shut(n:Nat)(M:Nat->Nat->Rat)(S:Nat->Prop):Prop:=∀i,i<n->S i->aB n (λj=>M j i)=1/\∀j,j<n->¬S j->M j i=0
def YH{n:Nat}(M:Nat->Nat->Rat)(S:Nat->Prop)[DecidablePred S](i:Nat):aB n (λj=>M j i)=aB n (λj=>if S j then M j i else 0)+aB n (λj=>if S j then 0 else M j i):=by rw[<-dF];grind
def aoo{n:Nat}{M:Nat->Nat->Rat}(hM:LQ n M)(S:Nat->Prop)[DecidablePred S]{i:Nat}(hi:i<n):aB n (λj=>if S j then M j i else 0)<=1:=by
 have h1:=hM.le i hi;rw[YH M S i]at h1;have h2:0<=aB n (λj=>if S j then 0 else M j i):=BP λj hj=>by
  split
  .rfl
  .exact hM.nn j i hj hi
 grind
def aop{n:Nat}{M:Nat->Nat->Rat}(hM:LQ n M)(S:Nat->Prop)[DecidablePred S]{i:Nat}(hi:i<n)(h:1<=aB n (λj=>if S j then M j i else 0)):aB n (λj=>M j i)=1/\∀j,j<n->¬S j->M j i=0:=by
 have h1:=hM.le i hi;have h0:=YH (n:=n) M S i;have h2:∀j,j<n->0<=(if S j then 0 else M j i):=λj hj=>by
  split
  .rfl
  .exact hM.nn j i hj hi
 grind[Go.Proofs.Ins.BP,Go.Proofs.Ins.YG]
def Pv{n:Nat}{M:Nat->Nat->Rat}(hM:LQ n M){w:Nat->Rat}(h:∀j,j<n->0<w j->w j<=mv n M w j):Shut n M λi=>0<w i:=by
 have h1:aB n (λj=>if 0<w j then w j else 0)<=aB n λj=>if 0<w j then mv n M w j else 0:=oO λj hj=>by grind
 have h2:(aB n λj=>if 0<w j then mv n M w j else 0)<=aB n λj=>aB n λi=>(if 0<w j then M j i else 0)*(if 0<w i then w i else 0):=oO λj hj=>by
  by_cases hp:0<w j
  .simp only[ae hp];refine oO λi hi=>?_;by_cases hq:0<w i
   .simp_all
   .simp only[ab hq];have a:=hM.nn j i hj hi;have b:w i<=0:=by grind
    have:=cT b a;grind
  simp_all[Go.Proofs.Ins.BP]
 rw[Bc]at h2;have h3:∀i,i<n->aB n (λj=>(if 0<w j then M j i else 0)*(if 0<w i then w i else 0))<=(if 0<w i then w i else 0):=λi hi=>by
  rw[ru n (if 0<w i then w i else 0) λj=>if 0<w j then M j i else 0];have a:=aoo hM (λi=>0<w i) hi;have b:0<=(if 0<w i then w i else 0):=by grind
  have:=bj a b;grind
 have h4:=MQ h3 (cM h1 h2);intro i hi hp;have h5:=h4 i hi;rw[ru n (if 0<w i then w i else 0) λj=>if 0<w j then M j i else 0,ae hp]at h5;refine aop hM (λi=>0<w i) hi ?_;generalize aB n (λj=>if 0<w j then M j i else 0)=z at h5⊢;have:(z-1)*w i=0:=by grind
 rcases gR.mp this with e|e<;>grind
structure Flow(n:Nat) where
 G:(Nat->Rat)->Nat->Rat
 M:(Nat->Rat)->Nat->Nat->Rat
 mono:∀x y,(∀i,i<n->0<=x i)->(∀i,i<n->x i<=y i)->∀j,j<n->G x j<=G y j
 leak:∀x y,(∀i,i<n->0<=x i)->(∀i,i<n->x i<=y i)->aB n (λi=>x i-G x i)<=aB n (λi=>y i-G y i)
 nn:∀x,(∀i,i<n->0<=x i)->∀j i,j<n->i<n->0<=M x j i
 loc:∀x d,(∀i,i<n->0<=x i)->(∀i,i<n->0<=d i)->∃ε,0<ε/\∀s,0<=s->s<=ε->∀j,j<n->G (λi=>x i+s*d i) j=G x j+s*mv n (M x) d j
def Nn(n:Nat)(x:Nat->Rat):Prop:=∀i,i<n->0<=x i
def Le(n:Nat)(x y:Nat->Rat):Prop:=∀i,i<n->x i<=y i
def bF(x d:Nat->Rat)(s:Rat)(i:Nat):Rat:=x i+s*d i
def Nn.step{n:Nat}{x d:Nat->Rat}{s:Rat}(hx:Nn n x)(hd:Nn n d)(hs:0<=s):Nn n (bF x d s):=λi hi=>by have:=hx i hi;have:=cf hs (hd i hi);unfold Ins.bF;grind
def le_step{n:Nat}{x d:Nat->Rat}{s:Rat}(hd:Nn n d)(hs:0<=s):Le n x (bF x d s):=λi hi=>by have:=cf hs (hd i hi);unfold bF;grind
def Nn.le{n:Nat}{x y:Nat->Rat}(h:Nn n x)(hl:Le n x y):Nn n y:=λi hi=>cM (h i hi) (hl i hi)
section
variable {n:Nat} (F:Flow n)
def Lin(x d:Nat->Rat)(h:Rat):Prop:=∀s,0<=s->s<=h->∀j,j<n->F.G (bF x d s) j=F.G x j+s*mv n (F.M x) d j
def Same(x d:Nat->Rat)(h:Rat):Prop:=∀s,0<=s->s<h->∀j i,j<n->i<n->F.M (bF x d s) j i=F.M x j i
theorem cancel{s a b:Rat}(hs:0<s)(h:s*a<=s*b):a<=b:=by refine gS.mp λhlt=>?_;have:=Rat.mul_lt_mul_of_pos_left hlt hs;grind
def aoq{M:Nat->Nat->Rat}{k:Nat}(hk:k<n)(j:Nat):mv n M (λi=>if i=k then 1 else 0) j=M j k:=by grind[mv,jE]
def Flow.sub{x:Nat->Rat}(hx:Nn n x):LQ n (F.M x):=by
 refine⟨F.nn x hx,λk hk=>?_⟩;have hd:Nn n (λi=>if i=k then 1 else 0):=λi _=>by grind
 obtain⟨ε,he,hl⟩:=F.loc x _ hx hd;have h1:=F.leak x (bF x _ ε) hx (le_step hd kd);have h2:aB n (λi=>bF x (λi=>if i=k then 1 else 0) ε i-F.G (bF x (λi=>if i=k then 1 else 0) ε) i)=aB n (λi=>x i-F.G x i)+(ε*1-ε*aB n (λj=>F.M x j k)):=by
  have e1:(1:Rat)=aB n (λi=>if i=k then 1 else 0):=by grind[jE]
  have e2:ε*1-ε*aB n (λj=>F.M x j k)=aB n λj=>ε*(if j=k then 1 else 0)-ε*F.M x j k:=by rw[iH,gQ,gQ,<-e1]
  rw[e2,<-dF];refine aQ λj hj=>?_;have:=hl ε kd aY j hj;rw[aoq hk]at this;unfold bF;grind
 grind[cancel]
def adi{ε:Rat}(h:0<ε):∃s,0<s/\s<=ε/\s<=1:=by
 by_cases h1:ε<=1
 .grind
 .exact⟨1,jj,by grind,aY⟩
theorem TJ{x z:Nat->Rat}(hx:Nn n x)(hz:Le n x z){j:Nat}(hj:j<n)(h:F.G z j<=F.G x j):∀i,i<n->x i<z i->F.M x j i=0:=by
 have hd:Nn n (λi=>z i-x i):=λi hi=>by have:=hz i hi;grind
 obtain⟨ε,he,hl⟩:=F.loc x _ hx hd;obtain⟨s,h1,h2,h3⟩:=adi he;have h4:=hl s kd h2 j hj;have h5:Le n (bF x (λi=>z i-x i) s) z:=λi hi=>by have:=bj h3 (hd i hi);unfold bF;grind
 have h6:=F.mono _ _ (hx.step hd kd) h5 j hj;unfold bF at h6;rw[h4]at h6;have h7:s*mv n (F.M x) (λi=>z i-x i) j<=s*0:=by grind
 have h8:=cancel (a:=mv n (F.M x) (λi=>z i-x i) j) (b:=0) h1 h7;intro i hi hlt;have h9:=YG (λi hi=>cf (F.nn x hx j i hj hi) (hd i hi)) h8 i hi;grind
def afU{x z:Nat->Rat}(hx:Nn n x)(hz:Le n x z)(hl:aB n (λi=>z i-F.G z i)<=aB n (λi=>x i-F.G x i))(h:∀j,j<n->z j<=x j->F.G z j<=F.G x j):Shut n (F.M x) λi=>x i<z i:=by
 have hd:Nn n (λi=>z i-x i):=λi hi=>by have:=hz i hi;grind
 obtain⟨ε,he,hlin⟩:=F.loc x _ hx hd;obtain⟨s,h1,h2,h3⟩:=adi he;have h5:Le n (bF x (λi=>z i-x i) s) z:=λi hi=>by have:=bj h3 (hd i hi);unfold bF;grind
 have h6:=F.leak _ _ (hx.step hd kd) h5;have h7:aB n (λi=>bF x (λi=>z i-x i) s i-F.G (bF x (λi=>z i-x i) s) i)=aB n (λi=>x i-F.G x i)+s*(aB n (λi=>z i-x i)-aB n (mv n (F.M x) λi=>z i-x i)):=by rw[<-iH,<-gQ,<-dF];refine aQ λj hj=>?_;have:=hlin s kd h2 j hj;unfold bF;grind
 rw[h7]at h6;have h8:s*(aB n (λi=>z i-x i)-aB n (mv n (F.M x) λi=>z i-x i))<=s*0:=by grind
 have h9:=cancel (b:=0) h1 h8;have hM:=F.sub hx;have h10:aB n (mv n (F.M x) λi=>z i-x i)=aB n λi=>aB n (λj=>F.M x j i)*(z i-x i):=by unfold mv;rw[Bc];exact aQ λi _=>ru n _ _
 rw[h10]at h9;have h11:=MQ (f:=λi=>aB n (λj=>F.M x j i)*(z i-x i)) (g:=λi=>z i-x i) (λi hi=>by have:=bj (hM.le i hi) (hd i hi);dsimp only at this;grind) kd
 intro i hi hlt;grind[Go.Proofs.Ins.TJ]
def Fix(c:Nat->Rat)(t:Rat)(x:Nat->Rat):Prop:=∀j,j<n->x j=t*c j+F.G x j
def Pre(c:Nat->Rat)(t:Rat)(y:Nat->Rat):Prop:=∀j,j<n->t*c j+F.G y j<=y j
def Post(c:Nat->Rat)(t:Rat)(y:Nat->Rat):Prop:=∀j,j<n->y j<=t*c j+F.G y j
def Fix.leak{c:Nat->Rat}{t:Rat}{x:Nat->Rat}(h:Fix F c t x):aB n (λi=>x i-F.G x i)=aB n λi=>t*c i:=aQ λi hi=>by have:=h i hi;grind
def YI{c:Nat->Rat}{t:Rat}{x y:Nat->Rat}(hx:Nn n x)(hf:Fix F c t x)(hno:∀S:Nat->Prop,(∃i,i<n/\S i)->¬Shut n (F.M x) S)(hy:Nn n y)(hp:Post F c t y):Le n y x:=by
 obtain⟨z,ez⟩:∃z:Nat->Rat,z=λi=>if x i<y i then y i else x i:=⟨_,rfl⟩
 have hxz:Le n x z:=λi _=>by grind
 have hyz:Le n y z:=λi _=>by grind
 have hz:Post F c t z:=λj hj=>by have h1:=F.mono _ _ hx hxz j hj;have h2:=F.mono _ _ hy hyz j hj;have h3:=hf j hj;have h4:=hp j hj;grind
 have h1:=F.leak _ _ hx hxz;have h2:=hf.leak;have h3:=oO hz;rw[dF]at h3;have h4:aB n (λi=>z i-F.G z i)=aB n z-aB n (F.G z):=iH n _ _;have hl:aB n (λi=>z i-F.G z i)<=aB n (λi=>x i-F.G x i):=by grind
 have h5:=MQ hz (by grind[dF])
 have h6:=afU F hx hxz hl λj hj hle=>by have:=h5 j hj;have:=hf j hj;grind
 intro i hi;grind
def ajz:∀(n:Nat) (x y v:Nat->Rat) (h:Rat),0<=h->Le n x y->Nn n v->∃s,0<=s/\s<=h/\Le n (bF x v s) y/\(s=h\/∃i,i<n/\0<v i/\bF x v s i=y i)
 |0,x,y,v,h,h0,_,_=>⟨h,h0,aY,λi hi=>jb,.inl rfl⟩
 |n+1,x,y,v,h,h0,hl,hv=>by
  obtain⟨s,h1,h2,h3,h4⟩:=ajz n x y v h h0 (λi hi=>hl i jb) (λi hi=>hv i jb);by_cases hc:bF x v s n<=y n
  .refine⟨s,h1,h2,λi hi=>?_,?_⟩
   .by_cases e:i=n
    .subst e;exact hc
    .exact h3 i jb
   .rcases h4 with h4|⟨i,hi,h5⟩
    .exact .inl h4
    .exact .inr ⟨i,jb,h5⟩
  .have hxn:=hl n jb;have hvn:=hv n jb;unfold bF at hc;have hp:0<v n:=by
    rcases Rat.le_iff_lt_or_eq.mp hvn with e|e
    .exact e
    .exfalso;rw[<-e]at hc;grind
   obtain⟨r,er⟩:∃r,r*v n=y n-x n:=⟨(y n-x n)/v n,df kd⟩
   have hr0:0<=r:=by refine gS.mp λhlt=>?_;have:=ec hlt hp;grind
   have hrs:r<=s:=by refine gS.mp λhlt=>?_;have:=ec hlt hp;grind
   refine⟨r,hr0,by grind,λi hi=>?_,.inr ⟨n,jb,hp,by unfold bF;grind⟩⟩;by_cases e:i=n
   .subst e;unfold bF;grind
   .have a:=h3 i jb;have b:=bj hrs (hv i jb);unfold bF at*;grind
def YJ{c:Nat->Rat}{t:Rat}{x v:Nat->Rat}{h:Rat}(hf:Fix F c t x)(hl:Lin F x v h)(hv:∀j,j<n->v j=mv n (F.M x) v j+c j){s:Rat}(h0:0<=s)(hs:s<=h):Fix F c (t+s) (bF x v s):=λj hj=>by rw[hl s h0 hs j hj];have:=hf j hj;grind[bF]
def YK{c:Nat->Rat}{t:Rat}{x d:Nat->Rat}{h:Rat}(hf:Fix F c t x)(hl:Lin F x d h)(hd:∀j,j<n->d j=mv n (F.M x) d j){s:Rat}(h0:0<=s)(hs:s<=h):Fix F c t (bF x d s):=λj hj=>by rw[hl s h0 hs j hj];have:=hf j hj;grind[bF]
def Least(c:Nat->Rat)(t:Rat)(x:Nat->Rat):Prop:=∀t' y,Nn n y->Pre F c t' y->(t<t'\/(t=1/\t'=1))->Le n x y
theorem Least.zero(c:Nat->Rat)(t:Rat):Least F c t λ_=>0:=λ_ _ hy _ _ i hi=>hy i hi
def touch{c:Nat->Rat}{t t':Rat}{z y:Nat->Rat}(hz:Nn n z)(hzy:Le n z y)(hc:∀j,j<n->0<=c j)(hf:Fix F c t z)(hp:Pre F c t' y)(ht:t<t'){j:Nat}(hj:j<n)(he:y j<=z j):
  c j=0/\∀i,i<n->z i<y i->F.M z j i=0:=by
 have h1:=F.mono _ _ hz hzy j hj
 have h2:=hf j hj
 have h3:=hp j hj
 have h4:(t'-t)*c j<=0:=by grind
 have h5:c j<=0:=cancel (s:=t'-t) kd kd
 have h6:c j=0:=by grind
 refine⟨h6,TJ F hz hzy hj (by rw[h6]at h2 h3;grind)⟩
def abt{c:Nat->Rat}{t:Rat}{x v:Nat->Rat}{h:Rat}(hx:Nn n x)(hv:Nn n v)(hc:∀j,j<n->0<=c j)(h0:0<=h)(hf:Fix F c t x)(hl:Lin F x v h)(hsm:Same F x v h)
  (hvm:∀j,j<n->v j=mv n (F.M x) v j+c j) (hno:∀S:Nat->Prop,(∃i,i<n/\S i)->(∀i,i<n->S i->0<v i)->¬Shut n (F.M x) S) (ht:t<1) (hL:Least F c t x):Least F c (t+h) (bF x v h):=by
 intro t' y hy hp ht'
 have hxy:Le n x y:=hL t' y hy hp (.inl kd)
 obtain⟨s,h1,h2,h3,h4⟩:=ajz n x y v h h0 hxy hv
 rcases h4 with h4|⟨i,hi,hvi,hti⟩
 .grind
 by_cases hsh:s<h
 .exfalso
  have hz:=hx.step hv h1
  have hfz:=YJ F hf hl hvm h1 (eo hsh)
  have htz:t+s<t':=by grind
  have VF:=λj hj he=>touch F (j:=j) hz h3 hc hfz hp htz hj he
  obtain⟨w,ew⟩:∃w:Nat->Rat,w=λi=>if bF x v s i=y i then v i else 0:=⟨_,rfl⟩
  have hM:=F.sub hx
  have hws:=Pv hM (w:=w) λj hj hw=>by
   have e:w j=if bF x v s j=y j then v j else 0:=by rw[ew]
   by_cases hq:bF x v s j=y j
   .rw[ae hq]at e;obtain⟨hc0,hm0⟩:=VF j hj kd;have a:mv n (F.M x) w j=mv n (F.M x) v j:=aQ λk hk=>by
     rw[ew];dsimp only;by_cases hk2:bF x v s k=y k
     .grind
     .have b:=hm0 k hk (by have:=h3 k hk;grind);rw[hsm s h1 hsh j k hj hk]at b;grind
    grind
   grind
  refine hno (λi=>0<w i) ⟨i,hi,?_⟩ (λk hk hw=>?_) hws
  .grind
  grind
 grind
def abu{c:Nat->Rat}{t:Rat}{x d:Nat->Rat}{h:Rat}(hx:Nn n x)(hd:Nn n d)(hc:∀j,j<n->0<=c j)(h0:0<=h)(hf:Fix F c t x)(hl:Lin F x d h)(hsm:Same F x d h)
  (hdm:∀j,j<n->d j=mv n (F.M x) d j) (hre:∀E:Nat->Prop,(∃i,i<n/\E i/\0<d i)->(∀j,j<n->E j->c j=0)->(∀j i,j<n->i<n->E j->F.M x j i≠0->E i)->False)
  (ht:t<1) (hL:Least F c t x):Least F c t (bF x d h):=by
 intro t' y hy hp ht'
 have hxy:Le n x y:=hL t' y hy hp ht'
 obtain⟨s,h1,h2,h3,h4⟩:=ajz n x y d h h0 hxy hd
 rcases h4 with h4|⟨i,hi,hvi,hti⟩
 .grind
 by_cases hsh:s<h
 .exfalso
  have hz:=hx.step hd h1
  have hfz:=YK F hf hl hdm h1 (eo hsh)
  have VF:=λj hj he=>touch F (j:=j) hz h3 hc hfz hp kd hj he
  refine hre (λi=>bF x d s i=y i) ⟨i,hi,hti,hvi⟩ (λj hj he=>(VF j hj kd).1) λj k hj hk he hne=>?_
  refine bz λhk2=>hne ?_
  have b:=(VF j hj kd).2 k hk (by have:=h3 k hk;grind)
  rwa[hsm s h1 hsh j k hj hk]at b
 grind
end
abbrev dJ:=List (Int×Rat)
def aW:dJ->Rat
 |[]=>0
 |p::t=>p.2+aW t
def gB:dJ->Int->Rat
 |[],_=>0
 |p::t,c=>(if p.1=c then p.2 else 0)+gB t c
def NnT(t:dJ):Prop:=∀p∈t,0<=p.2
theorem xE{t:dJ}(h:NnT t)(c:Int):0<=gB t c:=by
 induction t with
 |nil=>rfl
 |cons p t ih=>
  have h1:=ih λq hq=>h q (by simp[hq])
  have h2:=h p kc
  grind[gB]
theorem MR{t:dJ}(h:NnT t)(c:Int):gB t c<=aW t:=by
 induction t with
 |nil=>rfl
 |cons p t ih=>
  have h1:=ih λq hq=>h q (by simp[hq])
  have h2:=h p kc
  grind[gB,aW]
def zL{t:dJ}(h:NnT t):0<=aW t:=cM (xE h 0) (MR h 0)
abbrev fU:=List dJ
def La(l:fU):Prop:=∀t∈l,NnT t
def iw:fU->Rat->Int->Rat
 |[],_,_=>0
 |t::l,m,c=>if m<aW t then gB t c*(m/aW t)else gB t c+iw l (m-aW t) c
def kD:fU->Rat->Rat->Int->Rat
 |[],_,_,_=>0
 |t::l,m,r,c=>if m<aW t then gB t c*(r/aW t)else kD l (m-aW t) r c
def nN:fU->Rat->Option Rat
 |[],_=>none
 |t::l,m=>if m<aW t then some (aW t-m)else nN l (m-aW t)
def dR:fU->Rat->Nat
 |[],_=>0
 |t::l,m=>if m<aW t then 0 else dR l (m-aW t)+1
def jm:fU->Rat->Rat
 |[],_=>0
 |t::l,m=>if m<aW t then m else aW t+jm l (m-aW t)
def jF:fU->Rat
 |[]=>0
 |t::l=>aW t+jF l
def La.tl{t:dJ}{l:fU}(h:La (t::l)):NnT t/\La l:=⟨h t kc,λu hu=>h u (by simp[hu])⟩
theorem abv{a b:Rat}(ha:0<=a)(hb:0<b):0<=a/b:=by refine gS.mp λhlt=>?_;have h1:=ec hlt hb;grind[Rat.div_mul_cancel]
def yK{a b:Rat}(hb:0<b)(h:a<=b):a/b<=1:=by refine gS.mp λhlt=>?_;grind[Rat.mul_lt_mul_of_pos_right,Rat.div_mul_cancel]
theorem ajA{a b c:Rat}(hb:0<b)(h:a<=c):a/b<=c/b:=by refine gS.mp λhlt=>?_;grind[Rat.mul_lt_mul_of_pos_right,Rat.div_mul_cancel]
theorem Eh{l:fU}(h:La l)(c:Int):iw l 0 c=0:=by
 induction l with
 |nil=>rfl
 |cons t l ih=>
  obtain⟨h1,h2⟩:=h.tl
  grind[iw,xE,MR]
theorem VH{l:fU}(h:La l)(c:Int):∀{m:Rat},0<=m->0<=iw l m c:=by
 induction l with
 |nil=>intro m _;rfl
 |cons t l ih=>
  intro m hm
  obtain⟨h1,h2⟩:=h.tl
  grind[iw,xE,Rat.mul_nonneg,abv]
def ajB{l:fU}(h:La l)(c:Int){r:Rat}(hr:0<=r):∀{m:Rat},0<=m->0<=kD l m r c:=by
 induction l with
 |nil=>intro m _;rfl
 |cons t l ih=>
  intro m hm
  obtain⟨h1,h2⟩:=h.tl
  grind[kD,Rat.mul_nonneg,xE,abv]
def VI(l:fU)(c:Int)(s r:Rat):∀m,kD l m (s*r) c=s*kD l m r c:=by
 induction l with
 |nil=>grind[kD]
 |cons t l ih=>
  grind[kD]
theorem YL(l:fU)(c:Int)(m:Rat):kD l m 0 c=0:=by have:=VI l c 0 0 m;grind
def Ei{l:fU}(h:La l)(c:Int):∀{m m':Rat},0<=m->m<=m'->iw l m c<=iw l m' c:=by
 induction l with
 |nil=>intro m m' _ _;rfl
 |cons t l ih=>
  intro m m' hm hle
  obtain⟨h1,h2⟩:=h.tl
  have hc:=xE h1 c
  unfold iw
  by_cases e:m<aW t
  .rw[ae e]
   by_cases e2:m'<aW t
   .grind[Rat.mul_le_mul_of_nonneg_left,ajA]
   .rw[ab e2]
    have a:=cT (yK (a:=m) (b:=aW t) kd kd) hc
    grind[VH]
  .rw[ab e,ab kd]
   have:=ih h2 (m:=m-aW t) (m':=m'-aW t) kd kd
   grind
theorem zN{l:fU}:∀{m g:Rat},nN l m=some g->0<g:=by
 induction l with
 |nil=>intro m g h;cases h
 |cons t l ih=>
  grind[nN]
def adk{l:fU}(h:La l)(c:Int):∀{m g s:Rat},0<=m->nN l m=some g->0<=s->s<=g->iw l (m+s) c=iw l m c+kD l m s c:=by
 induction l with
 |nil=>intro m g s _ hg;cases hg
 |cons t l ih=>
  intro m g s hm hg hs hle
  obtain⟨h1,h2⟩:=h.tl
  unfold nN at hg
  unfold iw kD
  by_cases e:m<aW t
  .grind[Eh]
  .rw[ab e]at hg
   rw[ab e,ab e,ab kd,show m+s-aW t=m-aW t+s by grind,ih h2 kd hg hs hle]
   grind
def YM{l:fU}(c:Int)(r:Rat):∀{m g s:Rat},nN l m=some g->0<=s->s<g->kD l (m+s) r c=kD l m r c/\nN l (m+s)=some (g-s):=by
 induction l with
 |nil=>intro m g s hg;cases hg
 |cons t l ih=>
  intro m g s hg hs hlt
  unfold nN at hg⊢
  grind[kD]
def yL{l:fU}(c:Int)(r:Rat):∀{m s:Rat},nN l m=none->0<=s->iw l (m+s) c=iw l m c/\kD l (m+s) r c=0/\nN l (m+s)=none:=by
 induction l with
 |nil=>intro m s _ _;exact⟨rfl,rfl,rfl⟩
 |cons t l ih=>
  grind[nN,kD,iw]
theorem Px(l:fU):∀m,dR l m<=l.length:=by
 induction l with
 |nil=>intro m;exact jp
 |cons t l ih=>
  grind[dR]
def I9{l:fU}:∀{m m':Rat},m<=m'->dR l m<=dR l m':=by
 induction l with
 |nil=>intro m m' _;exact jp
 |cons t l ih=>
  intro m m' h
  unfold dR
  by_cases e:m<aW t
  .grind
  .rw[ab e,ab kd]
   have:=ih (m:=m-aW t) (m':=m'-aW t) kd
   omega
theorem adl{l:fU}:∀{m g:Rat},nN l m=some g->dR l m<dR l (m+g):=by
 induction l with
 |nil=>intro m g h;cases h
 |cons t l ih=>
  intro m g h
  unfold nN at h
  unfold dR
  by_cases e:m<aW t
  .grind
  .rw[ab e]at h
   have h1:=zN h
   grind
def J4{l:fU}(h:La l):∀{m m':Rat},0<=m->m<=m'->m-jm l m<=m'-jm l m':=by
 induction l with
 |nil=>grind[jm]
 |cons t l ih=>
  intro m m' hm hle
  obtain⟨h1,h2⟩:=h.tl
  unfold jm
  by_cases e:m<aW t
  .rw[ae e]
   by_cases e2:m'<aW t
   .rw[ae e2];grind
   .rw[ab e2]
    have a:=ih h2 (m:=0) (m':=m'-aW t) aY kd
    have b:jm l 0=0:=by
     clear ih a;induction l with
     |nil=>rfl
     |cons u l ih2=>
      obtain⟨h3,h4⟩:=h2.tl
      unfold jm
      split
      .rfl
      .have:=zL h3
       have h5:aW u=0:=by grind
       rw[h5,show(0:Rat)-0=0 by grind,ih2 (λx hx=>by
        rcases bA.mp hx with rfl|hx
        .exact h1
        .exact h4 x hx) h4];grind
    grind
  .rw[ab e,ab kd]
   have:=ih h2 (m:=m-aW t) (m':=m'-aW t) kd kd
   grind
theorem Py{l:fU}:∀{m:Rat},0<=m->m<=jF l->jm l m=m:=by
 induction l with
 |nil=>grind[jF,jm]
 |cons t l ih=>
  grind[jF,jm]
def aJ{α:Type}:List α->(α->Rat)->Rat
 |[],_=>0
 |a::l,f=>f a+aJ l f
section
variable {α:Type}
theorem eH{l:List α}{f g:α->Rat}(h:∀a∈l,f a=g a):aJ l f=aJ l g:=by
 induction l with
 |nil=>rfl
 |cons a l ih=>grind[aJ]
def Ej(l:List α)(f g:α->Rat):aJ l (λa=>f a+g a)=aJ l f+aJ l g:=by
 induction l with
 |nil=>unfold aJ;grind
 |cons a l ih=>grind[aJ]
def Pz(l:List α)(f g:α->Rat):aJ l (λa=>f a-g a)=aJ l f-aJ l g:=by
 induction l with
 |nil=>unfold aJ;grind
 |cons a l ih=>grind[aJ]
def yM(l:List α)(s:Rat)(f:α->Rat):aJ l (λa=>s*f a)=s*aJ l f:=by
 induction l with
 |nil=>unfold aJ;grind
 |cons a l ih=>grind[aJ]
def vG{l:List α}{f g:α->Rat}(h:∀a∈l,f a<=g a):aJ l f<=aJ l g:=by
 induction l with
 |nil=>rfl
 |cons a l ih=>
  grind[aJ]
theorem jf{l:List α}{f:α->Rat}(h:∀a∈l,f a=0):aJ l f=0:=by
 rw[eH (g:=λ_=>0) h];clear h;induction l with
 |nil=>rfl
 |cons a l ih=>grind[aJ]
def oq{l:List α}{f:α->Rat}(h:∀a∈l,0<=f a):0<=aJ l f:=by have:=vG (f:=λ_=>(0:Rat)) h;simp_all[jf]
def E8{n:Nat}(l:List α)(f:α->Nat->Rat):aB n (λi=>aJ l λa=>f a i)=aJ l λa=>aB n (f a):=by
 induction l with
 |nil=>exact bK λ_ _=>rfl
 |cons a l ih=>simp_all[aJ,dF]
end
structure fA where
 rk:fU
 ps:List (List Nat×fU)
def Ag(e:fA)(x:Rat)(c:Nat):Rat:=iw e.rk x c
def rts(e:fA)(x:Rat)(c:Nat):Rat:=kD e.rk x 1 c
def pooled(e:fA)(c:Nat):Bool:=e.ps.any λp=>p.1.contains c
def lM(e:fA)(x:Rat)(p:List Nat×fU):Rat:=aJ p.1 (Ag e x)
def uh(e:fA)(x:Rat)(p:List Nat×fU):Rat:=aJ p.1 (rts e x)
def uy(e:fA)(x:Rat)(c:Nat):Rat:=(if pooled e c then 0 else Ag e x c)+aJ e.ps λp=>iw p.2 (lM e x p) c
def rsv(e:fA)(x:Rat):Rat:=aJ e.ps λp=>iw p.2 (lM e x p) (-1)
def yN(e:fA)(x:Rat)(c:Nat):Rat:=(if pooled e c then 0 else rts e x c)+aJ e.ps λp=>kD p.2 (lM e x p) (uh e x p) c
def Ah(e:fA)(x:Rat):Rat:=aJ e.ps λp=>kD p.2 (lM e x p) (uh e x p) (-1)
def kF(a b:Rat):Rat:=if a<=b then a else b
theorem adn(a b:Rat):kF a b<=a/\kF a b<=b:=by grind[kF]
def Em(e:fA)(x:Rat):List (List Nat×fU)->Rat->Rat
 |[],g=>g
 |p::l,g=>match nN p.2 (lM e x p)with
  |some d=>if 0<uh e x p then Em e x l (kF g (d/uh e x p))else Em e x l g
  |none=>Em e x l g
def Ja(e:fA)(x:Rat):Option Rat:=match nN e.rk x with
 |some g=>some (Em e x e.ps g)
 |none=>none
def PD(e:fA)(x:Rat):List (List Nat×fU)->Nat
 |[]=>0
 |p::l=>(p.2.length-dR p.2 (lM e x p))+PD e x l
def opn(e:fA)(x:Rat):Nat:=(e.rk.length-dR e.rk x)+PD e x e.ps
structure BQ(e:fA):Prop where
 rk:La e.rk
 ps:∀p∈e.ps,La p.2
section
variable {e:fA}
theorem abw(h:BQ e){x:Rat}(hx:0<=x)(c:Nat):0<=Ag e x c:=VH h.rk _ hx
theorem ajC(h:BQ e){x:Rat}(hx:0<=x)(c:Nat):0<=rts e x c:=ajB h.rk _ jj hx
def nY(h:BQ e){x:Rat}(hx:0<=x)(p:List Nat×fU):0<=lM e x p:=oq λ_ _=>abw h hx _
def J6(h:BQ e){x:Rat}(hx:0<=x)(p:List Nat×fU):0<=uh e x p:=oq λ_ _=>ajC h hx _
def En(h:BQ e){x y:Rat}(hx:0<=x)(hy:x<=y)(p:List Nat×fU):lM e x p<=lM e y p:=vG λ_ _=>Ei h.rk _ hx hy
def PE(h:BQ e){x y:Rat}(hx:0<=x)(hy:x<=y)(c:Nat):uy e x c<=uy e y c:=by unfold uy;have h1:aJ e.ps (λp=>iw p.2 (lM e x p) c)<=aJ e.ps (λp=>iw p.2 (lM e y p) c):=vG λp hp=>Ei (h.ps p hp) _ (nY h hx p) (En h hx hy p);have h2:Ag e x c<=Ag e y c:=Ei h.rk _ hx hy;grind
def ajD(h:BQ e){x y:Rat}(hx:0<=x)(hy:x<=y):rsv e x<=rsv e y:=
 vG λp hp=>Ei (h.ps p hp) _ (nY h hx p) (En h hx hy p)
def J7(h:BQ e){x:Rat}(hx:0<=x)(c:Nat):0<=uy e x c:=by unfold uy;have h1:0<=aJ e.ps (λp=>iw p.2 (lM e x p) c):=oq λp hp=>VH (h.ps p hp) _ (nY h hx p);grind[abw]
def sZ(h:BQ e){x:Rat}(hx:0<=x)(c:Nat):0<=yN e x c:=by unfold yN;have h1:0<=aJ e.ps (λp=>kD p.2 (lM e x p) (uh e x p) c):=oq λp hp=>ajB (h.ps p hp) _ (J6 h hx p) (nY h hx p);grind[ajC]
theorem xG(e:fA)(x:Rat):∀(l:List (List Nat×fU)) (g:Rat),Em e x l g<=g/\∀p∈l,∀d,nN p.2 (lM e x p)=some d->0<uh e x p->Em e x l g<=d/uh e x p
 |[],g=>⟨aY,λp hp=>by cases hp⟩
 |p::l,g=>by
  unfold Em;cases hg:nN p.2 (lM e x p)with
  |none=>
   obtain⟨h1,h2⟩:=xG e x l g
   refine⟨h1,λq hq d hd hr=>?_⟩
   rcases bA.mp hq with rfl|hq
   .rw[hg]at hd;cases hd
   .exact h2 q hq d hd hr
  |some d0=>
   dsimp only
   by_cases hr0:0<uh e x p
   .rw[ae hr0]
    obtain⟨h1,h2⟩:=xG e x l (kF g (d0/uh e x p))
    obtain⟨h3,h4⟩:=adn g (d0/uh e x p)
    refine⟨cM h1 h3,λq hq d hd hr=>?_⟩
    rcases bA.mp hq with rfl|hq
    .rw[hg]at hd;cases hd;exact cM h1 h4
    .exact h2 q hq d hd hr
   .rw[ab hr0]
    obtain⟨h1,h2⟩:=xG e x l g
    refine⟨h1,λq hq d hd hr=>?_⟩
    rcases bA.mp hq with rfl|hq
    .exact absurd hr hr0
    .exact h2 q hq d hd hr
theorem BR(e:fA)(x:Rat):∀(l:List (List Nat×fU)) (g:Rat),Em e x l g=g\/∃p∈l,∃d,nN p.2 (lM e x p)=some d/\0<uh e x p/\Em e x l g=d/uh e x p
 |[],g=>.inl rfl
 |p::l,g=>by
  unfold Em;cases hg:nN p.2 (lM e x p)with
  |none=>
   rcases BR e x l g with h|⟨q,hq,d,h1,h2,h3⟩
   .exact .inl h
   .exact .inr ⟨q,by simp[hq],d,h1,h2,h3⟩
  |some d0=>
   dsimp only
   by_cases hr0:0<uh e x p
   .rw[ae hr0]
    rcases BR e x l (kF g (d0/uh e x p))with h|⟨q,hq,d,h1,h2,h3⟩
    .by_cases hm:g<=d0/uh e x p
     .exact .inl (by rw[h];unfold kF;rw[ae hm])
     .exact .inr ⟨p,by simp,d0,hg,hr0,by rw[h];unfold kF;rw[ab hm]⟩
    .exact .inr ⟨q,by simp[hq],d,h1,h2,h3⟩
   .rw[ab hr0]
    rcases BR e x l g with h|⟨q,hq,d,h1,h2,h3⟩
    .exact .inl h
    .exact .inr ⟨q,by simp[hq],d,h1,h2,h3⟩
theorem div_pos{a b:Rat}(ha:0<a)(hb:0<b):0<a/b:=by refine Rat.not_le.mp λhle=>?_;have h1:=bj hle (eo hb);grind[Rat.div_mul_cancel]
def Fa{x g:Rat}(h:Ja e x=some g):0<g:=by grind[Ja,BR,zN,div_pos]
theorem ado(h:BQ e){x g s:Rat}(hx:0<=x)(hg:nN e.rk x=some g)(h0:0<=s)(hs:s<=g)(c:Nat):Ag e (x+s) c=Ag e x c+s*rts e x c:=by unfold Ag rts;rw[adk h.rk _ hx hg h0 hs];have:=VI e.rk c s 1 x;grind
theorem VJ(h:BQ e){x g s:Rat}(hx:0<=x)(hg:nN e.rk x=some g)(h0:0<=s)(hs:s<=g)(p:List Nat×fU):lM e (x+s) p=lM e x p+s*uh e x p:=by unfold lM uh;rw[<-yM,<-Ej];grind[eH,ado]
theorem Ai{a b s:Rat}(hb:0<b)(h:s<=a/b):s*b<=a:=by grind[Rat.mul_le_mul_of_nonneg_right,Rat.div_mul_cancel]
theorem Aj{a b s:Rat}(hb:0<b)(h:s<a/b):s*b<a:=by grind[Rat.mul_lt_mul_of_pos_right,Rat.div_mul_cancel]
def ajE(h:BQ e){x g s:Rat}(hx:0<=x)(hg:nN e.rk x=some g)(h0:0<=s)(hs:s<=Em e x e.ps g){p:List Nat×fU}(hp:p∈e.ps)(c:Int):
  iw p.2 (lM e (x+s) p) c=iw p.2 (lM e x p) c+s*kD p.2 (lM e x p) (uh e x p) c:=by
 obtain⟨h1,h2⟩:=xG e x e.ps g
 rw[VJ h hx hg h0 (cM hs h1),<-VI]
 have hr:=J6 h hx p
 have hsr:=cf h0 hr
 cases hd:nN p.2 (lM e x p)with
 |none=>
  obtain⟨a,-,-⟩:=yL (l:=p.2) c 0 hd hsr
  obtain⟨-,b,-⟩:=yL (l:=p.2) c (s*uh e x p) hd (s:=0) aY
  grind
 |some d=>
  refine adk (h.ps p hp) c (nY h hx p) hd hsr ?_
  by_cases hr0:0<uh e x p
  .grind[Ai]
  .have:uh e x p=0:=by grind
   rw[this];have:=zN hd;grind
def VK(h:BQ e){x g s:Rat}(hx:0<=x)(hg:Ja e x=some g)(h0:0<=s)(hs:s<=g)(c:Nat):uy e (x+s) c=uy e x c+s*yN e x c:=by
 unfold Ja at hg;split at hg
 .next g0 hg0=>
  cases hg;unfold uy yN;rw[eH (λp hp=>ajE h hx hg0 h0 hs hp c),Ej,yM,ado h hx hg0 h0 (cM hs (xG e x e.ps g0).1)];grind
 grind
def YO{x g s:Rat}(hg:nN e.rk x=some g)(h0:0<=s)(hs:s<g)(c:Nat):rts e (x+s) c=rts e x c:=(YM _ _ hg h0 hs).1
def TK(h:BQ e){x g s:Rat}(hx:0<=x)(hg:nN e.rk x=some g)(h0:0<=s)(hs:s<Em e x e.ps g){p:List Nat×fU}(hp:p∈e.ps)(c:Int):
  kD p.2 (lM e (x+s) p) (uh e (x+s) p) c=kD p.2 (lM e x p) (uh e x p) c:=by
 obtain⟨h1,h2⟩:=xG e x e.ps g
 have hlt:s<g:=by grind
 rw[VJ h hx hg h0 (eo hlt)]
 have e1:uh e (x+s) p=uh e x p:=eH λc _=>YO hg h0 hlt c
 rw[e1]
 have hr:=J6 h hx p
 have hsr:=cf h0 hr
 cases hd:nN p.2 (lM e x p)with
 |none=>
  obtain⟨-,a,-⟩:=yL (l:=p.2) c (uh e x p) hd hsr
  obtain⟨-,b,-⟩:=yL (l:=p.2) c (uh e x p) hd (s:=0) aY
  grind
 |some d=>
  refine(YM c _ hd hsr ?_).1
  by_cases hr0:0<uh e x p
  .grind[Aj]
  .have:uh e x p=0:=by grind
   rw[this];grind[zN]
def Fb(h:BQ e){x g s:Rat}(hx:0<=x)(hg:Ja e x=some g)(h0:0<=s)(hs:s<g):(∀c,yN e (x+s) c=yN e x c)/\Ah e (x+s)=Ah e x:=by
 unfold Ja at hg;split at hg
 .next g0 hg0=>
  cases hg;have hlt:s<g0:=by grind[xG]
  refine⟨λc=>?_,?_⟩
  .unfold yN;rw[eH (λp hp=>TK h hx hg0 h0 hs hp c),YO hg0 h0 hlt]
  .unfold Ah;rw[eH (λp hp=>TK h hx hg0 h0 hs hp (-1))]
 grind
def YP(h:BQ e){x s:Rat}(hg:Ja e x=none)(h0:0<=s):(∀c,uy e (x+s) c=uy e x c/\yN e (x+s) c=0)/\rsv e (x+s)=rsv e x/\Ah e (x+s)=0/\Ja e (x+s)=none:=by
 unfold Ja at hg;split at hg
 .cases hg
 .next hn=>
  have h1:∀c,Ag e (x+s) c=Ag e x c:=λc=>(yL (l:=e.rk) c 1 hn h0).1;have h2:∀c,rts e (x+s) c=0:=λc=>(yL (l:=e.rk) c 1 hn h0).2.1;have h3:∀p,lM e (x+s) p=lM e x p:=λp=>eH λc _=>h1 c;have h4:∀p,uh e (x+s) p=0:=λp=>jf λc _=>h2 c;refine⟨λc=>⟨?_,?_⟩,?_,?_,?_⟩
  .grind[uy]
  .grind[yN,jf,YL]
  .grind[rsv]
  .grind[Ah,jf,YL]
  .unfold Ja;rw[(yL (l:=e.rk) 0 1 hn h0).2.2]
def Fe(h:BQ e){x y:Rat}(hx:0<=x)(hy:x<=y):∀l,PD e y l<=PD e x l
 |[]=>jp
 |p::l=>by unfold PD;have:=Fe h hx hy l;have:=I9 (l:=p.2) (En h hx hy p);omega
def adp(h:BQ e){x y:Rat}(hx:0<=x)(hy:x<=y){p:List Nat×fU}(hlt:dR p.2 (lM e x p)<dR p.2 (lM e y p)):∀l,p∈l->PD e y l<PD e x l
 |q::l,hp=>by
  unfold PD;have h1:=I9 (l:=q.2) (En h hx hy q);rcases bA.mp hp with rfl|hp
  .have:=Fe h hx hy l;grind[Px]
  .have:=adp h hx hy hlt l hp;omega
def YR(h:BQ e){x y:Rat}(hx:0<=x)(hy:x<=y):opn e y<=opn e x:=by unfold opn;have:=Fe h hx hy e.ps;have:=I9 (l:=e.rk) hy;omega
def BU(h:BQ e){x g:Rat}(hx:0<=x)(hg:Ja e x=some g):opn e (x+g)<opn e x:=by
 have hp:=Fa hg;have hle:x<=x+g:=by grind
 unfold Ja at hg;split at hg
 .next g0 hg0=>
  cases hg;unfold opn;rcases BR e x e.ps g0 with h1|⟨p,hp,d,h1,h2,h3⟩
  .have a:=Fe h hx hle e.ps;grind[adl,Px]
  .have b:dR p.2 (lM e x p)<dR p.2 (lM e (x+Em e x e.ps g0) p):=by grind[VJ,xG,adl]
   have:=adp h hx hle b e.ps hp;have:=I9 (l:=e.rk) hle;omega
 grind
end
end Go.Proofs.Ins
