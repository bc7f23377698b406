import Derived.Test.YthkggcakedkboaaGreatDoorY1
set_option linter.all false
namespace Go.Proofs.Ins
def aB:Nat->(Nat->Rat)->Rat
 |0,_=>0
 |n+1,f=>aB n f+f n
theorem aK{n:Nat}{f g:Nat->Rat}(h:∀i,i<n->f i=g i):aB n f=aB n g:=by
 induction n with
 |zero=>rfl
 |succ n ih=>grind[aB]
theorem bK{n:Nat}{f:Nat->Rat}(h:∀i,i<n->f i=0):aB n f=0:=by
 induction n with
 |zero=>rfl
 |succ n ih=>grind[aB]
theorem dB(n:Nat)(f g:Nat->Rat):aB n (λi=>f i+g i)=aB n f+aB n g:=by
 induction n with
 |zero=>grind[aB]
 |succ n ih=>grind[aB]
theorem iH(n:Nat)(f g:Nat->Rat):aB n (λi=>f i-g i)=aB n f-aB n g:=by
 induction n with
 |zero=>grind[aB]
 |succ n ih=>grind[aB]
theorem gQ(n:Nat)(c:Rat)(f:Nat->Rat):aB n (λi=>c*f i)=c*aB n f:=by
 induction n with
 |zero=>grind[aB]
 |succ n ih=>grind[aB]
theorem qc(n:Nat)(c:Rat)(f:Nat->Rat):aB n (λi=>f i*c)=aB n f*c:=by grind[Rat.mul_comm,gQ]
def nP{n:Nat}{f g:Nat->Rat}(h:∀i,i<n->f i<=g i):aB n f<=aB n g:=by
 induction n with
 |zero=>rfl
 |succ n ih=>
  grind[aB]
theorem AA{n:Nat}{f:Nat->Rat}(h:∀i,i<n->0<=f i):0<=aB n f:=by have:=nP (n:=n) (f:=λ_=>0) (g:=f) h;simp_all[bK]
def Lm{n:Nat}{f g:Nat->Rat}(h:∀i,i<n->f i<=g i)(e:aB n g<=aB n f):∀i,i<n->f i=g i:=by
 induction n with
 |zero=>omega
 |succ n ih=>
  rw[aB,aB]at e
  have h1:=nP (n:=n) (f:=f) (g:=g) λi hi=>h i jb
  grind
theorem XF{n:Nat}{f:Nat->Rat}(h:∀i,i<n->0<=f i)(e:aB n f<=0):∀i,i<n->f i=0:=by intro i hi;exact(Lm (f:=λ_=>0) h (by simp_all[bK]) i hi).symm
def zU(n m:Nat)(f:Nat->Nat->Rat):aB n (λi=>aB m λj=>f i j)=aB m λj=>aB n λi=>f i j:=by
 induction n with
 |zero=>grind[bK]
 |succ n ih=>
  simp_all[aB,dB]
theorem jv{n:Nat}{f:Nat->Rat}{k:Nat}(hk:k<n)(h:∀i,i<n->i≠k->f i=0):aB n f=f k:=by
 induction n with
 |zero=>omega
 |succ n ih=>
  grind[aB,bK]
def Dl{n:Nat}{f:Nat->Rat}{k:Nat}(hk:k<n)(h:∀i,i<n->0<=f i):f k<=aB n f:=by
 induction n with
 |zero=>omega
 |succ n ih=>
  grind[aB,AA]
def mv(n:Nat)(M:Nat->Nat->Rat)(v:Nat->Rat)(j:Nat):Rat:=aB n λi=>M j i*v i
structure KD(n:Nat)(M:Nat->Nat->Rat):Prop where
 nn:∀j i,j<n->i<n->0<=M j i
 le:∀i,i<n->aB n (λj=>M j i)<=1
def Shut(n:Nat)(M:Nat->Nat->Rat)(S:Nat->Prop):Prop:=∀i,i<n->S i->aB n (λj=>M j i)=1/\∀j,j<n->¬S j->M j i=0
def XH{n:Nat}(M:Nat->Nat->Rat)(S:Nat->Prop)[DecidablePred S](i:Nat):aB n (λj=>M j i)=aB n (λj=>if S j then M j i else 0)+aB n (λj=>if S j then 0 else M j i):=by rw[<-dB];grind
def ana{n:Nat}{M:Nat->Nat->Rat}(hM:KD n M)(S:Nat->Prop)[DecidablePred S]{i:Nat}(hi:i<n):aB n (λj=>if S j then M j i else 0)<=1:=by
 have h1:=hM.le i hi;rw[XH M S i]at h1;have h2:0<=aB n (λj=>if S j then 0 else M j i):=AA λj hj=>by
  split
  .rfl
  .exact hM.nn j i hj hi
 grind
def anb{n:Nat}{M:Nat->Nat->Rat}(hM:KD n M)(S:Nat->Prop)[DecidablePred S]{i:Nat}(hi:i<n)(h:1<=aB n (λj=>if S j then M j i else 0)):aB n (λj=>M j i)=1/\∀j,j<n->¬S j->M j i=0:=by
 have h1:=hM.le i hi;have h0:=XH (n:=n) M S i;have h2:∀j,j<n->0<=(if S j then 0 else M j i):=λj hj=>by
  split
  .rfl
  .exact hM.nn j i hj hi
 grind[Go.Proofs.Ins.AA,Go.Proofs.Ins.XF]
def Ol{n:Nat}{M:Nat->Nat->Rat}(hM:KD n M){w:Nat->Rat}(h:∀j,j<n->0<w j->w j<=mv n M w j):Shut n M λi=>0<w i:=by
 have h1:aB n (λj=>if 0<w j then w j else 0)<=aB n λj=>if 0<w j then mv n M w j else 0:=nP λj hj=>by grind
 have h2:(aB n λj=>if 0<w j then mv n M w j else 0)<=aB n λj=>aB n λi=>(if 0<w j then M j i else 0)*(if 0<w i then w i else 0):=nP λj hj=>by
  by_cases hp:0<w j
  .simp only[ab hp];refine nP λi hi=>?_;by_cases hq:0<w i
   .simp_all
   .simp only[ae hq];have a:=hM.nn j i hj hi;have b:w i<=0:=by grind
    have:=cL b a;grind
  simp_all[Go.Proofs.Ins.AA]
 rw[zU]at h2;have h3:∀i,i<n->aB n (λj=>(if 0<w j then M j i else 0)*(if 0<w i then w i else 0))<=(if 0<w i then w i else 0):=λi hi=>by
  rw[qc n (if 0<w i then w i else 0) λj=>if 0<w j then M j i else 0];have a:=ana hM (λi=>0<w i) hi;have b:0<=(if 0<w i then w i else 0):=by grind
  have:=bj a b;grind
 have h4:=Lm h3 (cG h1 h2);intro i hi hp;have h5:=h4 i hi;rw[qc n (if 0<w i then w i else 0) λj=>if 0<w j then M j i else 0,ab hp]at h5;refine anb hM (λi=>0<w i) hi ?_;generalize aB n (λj=>if 0<w j then M j i else 0)=z at h5⊢;have:(z-1)*w i=0:=by grind
 rcases gO.mp this with e|e<;>grind
structure Flow(n:Nat) where
 G:(Nat->Rat)->Nat->Rat
 M:(Nat->Rat)->Nat->Nat->Rat
 mono:∀x y,(∀i,i<n->0<=x i)->(∀i,i<n->x i<=y i)->∀j,j<n->G x j<=G y j
 leak:∀x y,(∀i,i<n->0<=x i)->(∀i,i<n->x i<=y i)->aB n (λi=>x i-G x i)<=aB n (λi=>y i-G y i)
 nn:∀x,(∀i,i<n->0<=x i)->∀j i,j<n->i<n->0<=M x j i
 loc:∀x d,(∀i,i<n->0<=x i)->(∀i,i<n->0<=d i)->∃ε,0<ε/\∀s,0<=s->s<=ε->∀j,j<n->G (λi=>x i+s*d i) j=G x j+s*mv n (M x) d j
def Nn(n:Nat)(x:Nat->Rat):Prop:=∀i,i<n->0<=x i
def Le(n:Nat)(x y:Nat->Rat):Prop:=∀i,i<n->x i<=y i
def aZ(x d:Nat->Rat)(s:Rat)(i:Nat):Rat:=x i+s*d i
def Nn.step{n:Nat}{x d:Nat->Rat}{s:Rat}(hx:Nn n x)(hd:Nn n d)(hs:0<=s):Nn n (aZ x d s):=λi hi=>by have:=hx i hi;have:=cf hs (hd i hi);unfold Ins.aZ;grind
def le_step{n:Nat}{x d:Nat->Rat}{s:Rat}(hd:Nn n d)(hs:0<=s):Le n x (aZ x d s):=λi hi=>by have:=cf hs (hd i hi);unfold aZ;grind
def Nn.le{n:Nat}{x y:Nat->Rat}(h:Nn n x)(hl:Le n x y):Nn n y:=λi hi=>cG (h i hi) (hl i hi)
section
variable {n:Nat} (F:Flow n)
def Lin(x d:Nat->Rat)(h:Rat):Prop:=∀s,0<=s->s<=h->∀j,j<n->F.G (aZ x d s) j=F.G x j+s*mv n (F.M x) d j
def Same(x d:Nat->Rat)(h:Rat):Prop:=∀s,0<=s->s<h->∀j i,j<n->i<n->F.M (aZ x d s) j i=F.M x j i
theorem cancel{s a b:Rat}(hs:0<s)(h:s*a<=s*b):a<=b:=by refine ik.mp λhlt=>?_;have:=Rat.mul_lt_mul_of_pos_left hlt hs;grind
def anc{M:Nat->Nat->Rat}{k:Nat}(hk:k<n)(j:Nat):mv n M (λi=>if i=k then 1 else 0) j=M j k:=by grind[mv,jv]
def Flow.sub{x:Nat->Rat}(hx:Nn n x):KD n (F.M x):=by
 refine⟨F.nn x hx,λk hk=>?_⟩;have hd:Nn n (λi=>if i=k then 1 else 0):=λi _=>by grind
 obtain⟨ε,he,hl⟩:=F.loc x _ hx hd;have h1:=F.leak x (aZ x _ ε) hx (le_step hd kd);have h2:aB n (λi=>aZ x (λi=>if i=k then 1 else 0) ε i-F.G (aZ x (λi=>if i=k then 1 else 0) ε) i)=aB n (λi=>x i-F.G x i)+(ε*1-ε*aB n (λj=>F.M x j k)):=by
  have e1:(1:Rat)=aB n (λi=>if i=k then 1 else 0):=by grind[jv]
  have e2:ε*1-ε*aB n (λj=>F.M x j k)=aB n λj=>ε*(if j=k then 1 else 0)-ε*F.M x j k:=by rw[iH,gQ,gQ,<-e1]
  rw[e2,<-dB];refine aK λj hj=>?_;have:=hl ε kd aR j hj;rw[anc hk]at this;unfold aZ;grind
 grind[cancel]
def acs{ε:Rat}(h:0<ε):∃s,0<s/\s<=ε/\s<=1:=by
 by_cases h1:ε<=1
 .grind
 .exact⟨1,jj,by grind,aR⟩
theorem Ri{x z:Nat->Rat}(hx:Nn n x)(hz:Le n x z){j:Nat}(hj:j<n)(h:F.G z j<=F.G x j):∀i,i<n->x i<z i->F.M x j i=0:=by
 have hd:Nn n (λi=>z i-x i):=λi hi=>by have:=hz i hi;grind
 obtain⟨ε,he,hl⟩:=F.loc x _ hx hd;obtain⟨s,h1,h2,h3⟩:=acs he;have h4:=hl s kd h2 j hj;have h5:Le n (aZ x (λi=>z i-x i) s) z:=λi hi=>by have:=bj h3 (hd i hi);unfold aZ;grind
 have h6:=F.mono _ _ (hx.step hd kd) h5 j hj;unfold aZ at h6;rw[h4]at h6;have h7:s*mv n (F.M x) (λi=>z i-x i) j<=s*0:=by grind
 have h8:=cancel (a:=mv n (F.M x) (λi=>z i-x i) j) (b:=0) h1 h7;intro i hi hlt;have h9:=XF (λi hi=>cf (F.nn x hx j i hj hi) (hd i hi)) h8 i hi;grind
def ae9{x z:Nat->Rat}(hx:Nn n x)(hz:Le n x z)(hl:aB n (λi=>z i-F.G z i)<=aB n (λi=>x i-F.G x i))(h:∀j,j<n->z j<=x j->F.G z j<=F.G x j):Shut n (F.M x) λi=>x i<z i:=by
 have hd:Nn n (λi=>z i-x i):=λi hi=>by have:=hz i hi;grind
 obtain⟨ε,he,hlin⟩:=F.loc x _ hx hd;obtain⟨s,h1,h2,h3⟩:=acs he;have h5:Le n (aZ x (λi=>z i-x i) s) z:=λi hi=>by have:=bj h3 (hd i hi);unfold aZ;grind
 have h6:=F.leak _ _ (hx.step hd kd) h5;have h7:aB n (λi=>aZ x (λi=>z i-x i) s i-F.G (aZ x (λi=>z i-x i) s) i)=aB n (λi=>x i-F.G x i)+s*(aB n (λi=>z i-x i)-aB n (mv n (F.M x) λi=>z i-x i)):=by rw[<-iH,<-gQ,<-dB];refine aK λj hj=>?_;have:=hlin s kd h2 j hj;unfold aZ;grind
 rw[h7]at h6;have h8:s*(aB n (λi=>z i-x i)-aB n (mv n (F.M x) λi=>z i-x i))<=s*0:=by grind
 have h9:=cancel (b:=0) h1 h8;have hM:=F.sub hx;have h10:aB n (mv n (F.M x) λi=>z i-x i)=aB n λi=>aB n (λj=>F.M x j i)*(z i-x i):=by unfold mv;rw[zU];exact aK λi _=>qc n _ _
 rw[h10]at h9;have h11:=Lm (f:=λi=>aB n (λj=>F.M x j i)*(z i-x i)) (g:=λi=>z i-x i) (λi hi=>by have:=bj (hM.le i hi) (hd i hi);dsimp only at this;grind) kd
 intro i hi hlt;grind[Go.Proofs.Ins.Ri]
def Fix(c:Nat->Rat)(t:Rat)(x:Nat->Rat):Prop:=∀j,j<n->x j=t*c j+F.G x j
def Pre(c:Nat->Rat)(t:Rat)(y:Nat->Rat):Prop:=∀j,j<n->t*c j+F.G y j<=y j
def Post(c:Nat->Rat)(t:Rat)(y:Nat->Rat):Prop:=∀j,j<n->y j<=t*c j+F.G y j
def Fix.leak{c:Nat->Rat}{t:Rat}{x:Nat->Rat}(h:Fix F c t x):aB n (λi=>x i-F.G x i)=aB n λi=>t*c i:=aK λi hi=>by have:=h i hi;grind
def XI{c:Nat->Rat}{t:Rat}{x y:Nat->Rat}(hx:Nn n x)(hf:Fix F c t x)(hno:∀S:Nat->Prop,(∃i,i<n/\S i)->¬Shut n (F.M x) S)(hy:Nn n y)(hp:Post F c t y):Le n y x:=by
 obtain⟨z,ez⟩:∃z:Nat->Rat,z=λi=>if x i<y i then y i else x i:=⟨_,rfl⟩
 have hxz:Le n x z:=λi _=>by grind
 have hyz:Le n y z:=λi _=>by grind
 have hz:Post F c t z:=λj hj=>by have h1:=F.mono _ _ hx hxz j hj;have h2:=F.mono _ _ hy hyz j hj;have h3:=hf j hj;have h4:=hp j hj;grind
 have h1:=F.leak _ _ hx hxz;have h2:=hf.leak;have h3:=nP hz;rw[dB]at h3;have h4:aB n (λi=>z i-F.G z i)=aB n z-aB n (F.G z):=iH n _ _;have hl:aB n (λi=>z i-F.G z i)<=aB n (λi=>x i-F.G x i):=by grind
 have h5:=Lm hz (by grind[dB])
 have h6:=ae9 F hx hxz hl λj hj hle=>by have:=h5 j hj;have:=hf j hj;grind
 intro i hi;grind
def aix:∀(n:Nat) (x y v:Nat->Rat) (h:Rat),0<=h->Le n x y->Nn n v->∃s,0<=s/\s<=h/\Le n (aZ x v s) y/\(s=h\/∃i,i<n/\0<v i/\aZ x v s i=y i)
 |0,x,y,v,h,h0,_,_=>⟨h,h0,aR,λi hi=>jb,.inl rfl⟩
 |n+1,x,y,v,h,h0,hl,hv=>by
  obtain⟨s,h1,h2,h3,h4⟩:=aix n x y v h h0 (λi hi=>hl i jb) (λi hi=>hv i jb);by_cases hc:aZ x v s n<=y n
  .refine⟨s,h1,h2,λi hi=>?_,?_⟩
   .by_cases e:i=n
    .subst e;exact hc
    .exact h3 i jb
   .rcases h4 with h4|⟨i,hi,h5⟩
    .exact .inl h4
    .exact .inr ⟨i,jb,h5⟩
  .have hxn:=hl n jb;have hvn:=hv n jb;unfold aZ at hc;have hp:0<v n:=by
    rcases Rat.le_iff_lt_or_eq.mp hvn with e|e
    .exact e
    .exfalso;rw[<-e]at hc;grind
   obtain⟨r,er⟩:∃r,r*v n=y n-x n:=⟨(y n-x n)/v n,dc kd⟩
   have hr0:0<=r:=by refine ik.mp λhlt=>?_;have:=dy hlt hp;grind
   have hrs:r<=s:=by refine ik.mp λhlt=>?_;have:=dy hlt hp;grind
   refine⟨r,hr0,by grind,λi hi=>?_,.inr ⟨n,jb,hp,by unfold aZ;grind⟩⟩;by_cases e:i=n
   .subst e;unfold aZ;grind
   .have a:=h3 i jb;have b:=bj hrs (hv i jb);unfold aZ at*;grind
def XJ{c:Nat->Rat}{t:Rat}{x v:Nat->Rat}{h:Rat}(hf:Fix F c t x)(hl:Lin F x v h)(hv:∀j,j<n->v j=mv n (F.M x) v j+c j){s:Rat}(h0:0<=s)(hs:s<=h):Fix F c (t+s) (aZ x v s):=λj hj=>by rw[hl s h0 hs j hj];have:=hf j hj;grind[aZ]
def XK{c:Nat->Rat}{t:Rat}{x d:Nat->Rat}{h:Rat}(hf:Fix F c t x)(hl:Lin F x d h)(hd:∀j,j<n->d j=mv n (F.M x) d j){s:Rat}(h0:0<=s)(hs:s<=h):Fix F c t (aZ x d s):=λj hj=>by rw[hl s h0 hs j hj];have:=hf j hj;grind[aZ]
def Least(c:Nat->Rat)(t:Rat)(x:Nat->Rat):Prop:=∀t' y,Nn n y->Pre F c t' y->(t<t'\/(t=1/\t'=1))->Le n x y
theorem Least.zero(c:Nat->Rat)(t:Rat):Least F c t λ_=>0:=λ_ _ hy _ _ i hi=>hy i hi
def touch{c:Nat->Rat}{t t':Rat}{z y:Nat->Rat}(hz:Nn n z)(hzy:Le n z y)(hc:∀j,j<n->0<=c j)(hf:Fix F c t z)(hp:Pre F c t' y)(ht:t<t'){j:Nat}(hj:j<n)(he:y j<=z j):
  c j=0/\∀i,i<n->z i<y i->F.M z j i=0:=by
 have h1:=F.mono _ _ hz hzy j hj
 have h2:=hf j hj
 have h3:=hp j hj
 have h4:(t'-t)*c j<=0:=by grind
 have h5:c j<=0:=cancel (s:=t'-t) kd kd
 have h6:c j=0:=by grind
 refine⟨h6,Ri F hz hzy hj (by rw[h6]at h2 h3;grind)⟩
def aaB{c:Nat->Rat}{t:Rat}{x v:Nat->Rat}{h:Rat}(hx:Nn n x)(hv:Nn n v)(hc:∀j,j<n->0<=c j)(h0:0<=h)(hf:Fix F c t x)(hl:Lin F x v h)(hsm:Same F x v h)
  (hvm:∀j,j<n->v j=mv n (F.M x) v j+c j) (hno:∀S:Nat->Prop,(∃i,i<n/\S i)->(∀i,i<n->S i->0<v i)->¬Shut n (F.M x) S) (ht:t<1) (hL:Least F c t x):Least F c (t+h) (aZ x v h):=by
 intro t' y hy hp ht'
 have hxy:Le n x y:=hL t' y hy hp (.inl kd)
 obtain⟨s,h1,h2,h3,h4⟩:=aix n x y v h h0 hxy hv
 rcases h4 with h4|⟨i,hi,hvi,hti⟩
 .grind
 by_cases hsh:s<h
 .exfalso
  have hz:=hx.step hv h1
  have hfz:=XJ F hf hl hvm h1 (dE hsh)
  have htz:t+s<t':=by grind
  have UN:=λj hj he=>touch F (j:=j) hz h3 hc hfz hp htz hj he
  obtain⟨w,ew⟩:∃w:Nat->Rat,w=λi=>if aZ x v s i=y i then v i else 0:=⟨_,rfl⟩
  have hM:=F.sub hx
  have hws:=Ol hM (w:=w) λj hj hw=>by
   have e:w j=if aZ x v s j=y j then v j else 0:=by rw[ew]
   by_cases hq:aZ x v s j=y j
   .rw[ab hq]at e;obtain⟨hc0,hm0⟩:=UN j hj kd;have a:mv n (F.M x) w j=mv n (F.M x) v j:=aK λk hk=>by
     rw[ew];dsimp only;by_cases hk2:aZ x v s k=y k
     .grind
     .have b:=hm0 k hk (by have:=h3 k hk;grind);rw[hsm s h1 hsh j k hj hk]at b;grind
    grind
   grind
  refine hno (λi=>0<w i) ⟨i,hi,?_⟩ (λk hk hw=>?_) hws
  .grind
  grind
 grind
def aaC{c:Nat->Rat}{t:Rat}{x d:Nat->Rat}{h:Rat}(hx:Nn n x)(hd:Nn n d)(hc:∀j,j<n->0<=c j)(h0:0<=h)(hf:Fix F c t x)(hl:Lin F x d h)(hsm:Same F x d h)
  (hdm:∀j,j<n->d j=mv n (F.M x) d j) (hre:∀E:Nat->Prop,(∃i,i<n/\E i/\0<d i)->(∀j,j<n->E j->c j=0)->(∀j i,j<n->i<n->E j->F.M x j i≠0->E i)->False)
  (ht:t<1) (hL:Least F c t x):Least F c t (aZ x d h):=by
 intro t' y hy hp ht'
 have hxy:Le n x y:=hL t' y hy hp ht'
 obtain⟨s,h1,h2,h3,h4⟩:=aix n x y d h h0 hxy hd
 rcases h4 with h4|⟨i,hi,hvi,hti⟩
 .grind
 by_cases hsh:s<h
 .exfalso
  have hz:=hx.step hd h1
  have hfz:=XK F hf hl hdm h1 (dE hsh)
  have UN:=λj hj he=>touch F (j:=j) hz h3 hc hfz hp kd hj he
  refine hre (λi=>aZ x d s i=y i) ⟨i,hi,hti,hvi⟩ (λj hj he=>(UN j hj kd).1) λj k hj hk he hne=>?_
  refine bp λhk2=>hne ?_
  have b:=(UN j hj kd).2 k hk (by have:=h3 k hk;grind)
  rwa[hsm s h1 hsh j k hj hk]at b
 grind
end
abbrev dJ:=List (Int×Rat)
def aV:dJ->Rat
 |[]=>0
 |p::t=>p.2+aV t
def fZ:dJ->Int->Rat
 |[],_=>0
 |p::t,c=>(if p.1=c then p.2 else 0)+fZ t c
def NnT(t:dJ):Prop:=∀p∈t,0<=p.2
theorem wG{t:dJ}(h:NnT t)(c:Int):0<=fZ t c:=by
 induction t with
 |nil=>rfl
 |cons p t ih=>
  have h1:=ih λq hq=>h q (by simp[hq])
  have h2:=h p kc
  grind[fZ]
theorem Lp{t:dJ}(h:NnT t)(c:Int):fZ t c<=aV t:=by
 induction t with
 |nil=>rfl
 |cons p t ih=>
  have h1:=ih λq hq=>h q (by simp[hq])
  have h2:=h p kc
  grind[fZ,aV]
def yJ{t:dJ}(h:NnT t):0<=aV t:=cG (wG h 0) (Lp h 0)
abbrev fU:=List dJ
def Kq(l:fU):Prop:=∀t∈l,NnT t
def iy:fU->Rat->Int->Rat
 |[],_,_=>0
 |t::l,m,c=>if m<aV t then fZ t c*(m/aV t)else fZ t c+iy l (m-aV t) c
def jU:fU->Rat->Rat->Int->Rat
 |[],_,_,_=>0
 |t::l,m,r,c=>if m<aV t then fZ t c*(r/aV t)else jU l (m-aV t) r c
def mG:fU->Rat->Option Rat
 |[],_=>none
 |t::l,m=>if m<aV t then some (aV t-m)else mG l (m-aV t)
def dP:fU->Rat->Nat
 |[],_=>0
 |t::l,m=>if m<aV t then 0 else dP l (m-aV t)+1
def ji:fU->Rat->Rat
 |[],_=>0
 |t::l,m=>if m<aV t then m else aV t+ji l (m-aV t)
def jw:fU->Rat
 |[]=>0
 |t::l=>aV t+jw l
def Kq.tl{t:dJ}{l:fU}(h:Kq (t::l)):NnT t/\Kq l:=⟨h t kc,λu hu=>h u (by simp[hu])⟩
theorem aaD{a b:Rat}(ha:0<=a)(hb:0<b):0<=a/b:=by refine ik.mp λhlt=>?_;have h1:=dy hlt hb;grind[Rat.div_mul_cancel]
def xM{a b:Rat}(hb:0<b)(h:a<=b):a/b<=1:=by refine ik.mp λhlt=>?_;grind[Rat.mul_lt_mul_of_pos_right,Rat.div_mul_cancel]
theorem aiy{a b c:Rat}(hb:0<b)(h:a<=c):a/b<=c/b:=by refine ik.mp λhlt=>?_;grind[Rat.mul_lt_mul_of_pos_right,Rat.div_mul_cancel]
theorem Dn{l:fU}(h:Kq l)(c:Int):iy l 0 c=0:=by
 induction l with
 |nil=>rfl
 |cons t l ih=>
  obtain⟨h1,h2⟩:=h.tl
  grind[iy,wG,Lp]
theorem UQ{l:fU}(h:Kq l)(c:Int):∀{m:Rat},0<=m->0<=iy l m c:=by
 induction l with
 |nil=>intro m _;rfl
 |cons t l ih=>
  intro m hm
  obtain⟨h1,h2⟩:=h.tl
  grind[iy,wG,Rat.mul_nonneg,aaD]
def aiz{l:fU}(h:Kq l)(c:Int){r:Rat}(hr:0<=r):∀{m:Rat},0<=m->0<=jU l m r c:=by
 induction l with
 |nil=>intro m _;rfl
 |cons t l ih=>
  intro m hm
  obtain⟨h1,h2⟩:=h.tl
  grind[jU,Rat.mul_nonneg,wG,aaD]
def UR(l:fU)(c:Int)(s r:Rat):∀m,jU l m (s*r) c=s*jU l m r c:=by
 induction l with
 |nil=>grind[jU]
 |cons t l ih=>
  grind[jU]
theorem XL(l:fU)(c:Int)(m:Rat):jU l m 0 c=0:=by have:=UR l c 0 0 m;grind
def Il{l:fU}(h:Kq l)(c:Int):∀{m m':Rat},0<=m->m<=m'->iy l m c<=iy l m' c:=by
 induction l with
 |nil=>intro m m' _ _;rfl
 |cons t l ih=>
  intro m m' hm hle
  obtain⟨h1,h2⟩:=h.tl
  have hc:=wG h1 c
  unfold iy
  by_cases e:m<aV t
  .rw[ab e]
   by_cases e2:m'<aV t
   .grind[Rat.mul_le_mul_of_nonneg_left,aiy]
   .rw[ae e2]
    have a:=cL (xM (a:=m) (b:=aV t) kd kd) hc
    grind[UQ]
  .rw[ae e,ae kd]
   have:=ih h2 (m:=m-aV t) (m':=m'-aV t) kd kd
   grind
theorem yK{l:fU}:∀{m g:Rat},mG l m=some g->0<g:=by
 induction l with
 |nil=>intro m g h;cases h
 |cons t l ih=>
  grind[mG]
def acu{l:fU}(h:Kq l)(c:Int):∀{m g s:Rat},0<=m->mG l m=some g->0<=s->s<=g->iy l (m+s) c=iy l m c+jU l m s c:=by
 induction l with
 |nil=>intro m g s _ hg;cases hg
 |cons t l ih=>
  intro m g s hm hg hs hle
  obtain⟨h1,h2⟩:=h.tl
  unfold mG at hg
  unfold iy jU
  by_cases e:m<aV t
  .grind[Dn]
  .rw[ae e]at hg
   rw[ae e,ae e,ae kd,show m+s-aV t=m-aV t+s by grind,ih h2 kd hg hs hle]
   grind
def XM{l:fU}(c:Int)(r:Rat):∀{m g s:Rat},mG l m=some g->0<=s->s<g->jU l (m+s) r c=jU l m r c/\mG l (m+s)=some (g-s):=by
 induction l with
 |nil=>intro m g s hg;cases hg
 |cons t l ih=>
  intro m g s hg hs hlt
  unfold mG at hg⊢
  grind[jU]
def xO{l:fU}(c:Int)(r:Rat):∀{m s:Rat},mG l m=none->0<=s->iy l (m+s) c=iy l m c/\jU l (m+s) r c=0/\mG l (m+s)=none:=by
 induction l with
 |nil=>intro m s _ _;exact⟨rfl,rfl,rfl⟩
 |cons t l ih=>
  grind[mG,jU,iy]
theorem Om(l:fU):∀m,dP l m<=l.length:=by
 induction l with
 |nil=>intro m;exact jp
 |cons t l ih=>
  grind[dP]
def Io{l:fU}:∀{m m':Rat},m<=m'->dP l m<=dP l m':=by
 induction l with
 |nil=>intro m m' _;exact jp
 |cons t l ih=>
  intro m m' h
  unfold dP
  by_cases e:m<aV t
  .grind
  .rw[ae e,ae kd]
   have:=ih (m:=m-aV t) (m':=m'-aV t) kd
   omega
theorem acv{l:fU}:∀{m g:Rat},mG l m=some g->dP l m<dP l (m+g):=by
 induction l with
 |nil=>intro m g h;cases h
 |cons t l ih=>
  intro m g h
  unfold mG at h
  unfold dP
  by_cases e:m<aV t
  .grind
  .rw[ae e]at h
   have h1:=yK h
   grind
def Jt{l:fU}(h:Kq l):∀{m m':Rat},0<=m->m<=m'->m-ji l m<=m'-ji l m':=by
 induction l with
 |nil=>grind[ji]
 |cons t l ih=>
  intro m m' hm hle
  obtain⟨h1,h2⟩:=h.tl
  unfold ji
  by_cases e:m<aV t
  .rw[ab e]
   by_cases e2:m'<aV t
   .rw[ab e2];grind
   .rw[ae e2]
    have a:=ih h2 (m:=0) (m':=m'-aV t) aR kd
    have b:ji l 0=0:=by
     clear ih a;induction l with
     |nil=>rfl
     |cons u l ih2=>
      obtain⟨h3,h4⟩:=h2.tl
      unfold ji
      split
      .rfl
      .have:=yJ h3
       have h5:aV u=0:=by grind
       rw[h5,show(0:Rat)-0=0 by grind,ih2 (λx hx=>by
        rcases bz.mp hx with rfl|hx
        .exact h1
        .exact h4 x hx) h4];grind
    grind
  .rw[ae e,ae kd]
   have:=ih h2 (m:=m-aV t) (m':=m'-aV t) kd kd
   grind
theorem Oo{l:fU}:∀{m:Rat},0<=m->m<=jw l->ji l m=m:=by
 induction l with
 |nil=>grind[jw,ji]
 |cons t l ih=>
  grind[jw,ji]
def aI{α:Type}:List α->(α->Rat)->Rat
 |[],_=>0
 |a::l,f=>f a+aI l f
section
variable {α:Type}
theorem dO{l:List α}{f g:α->Rat}(h:∀a∈l,f a=g a):aI l f=aI l g:=by
 induction l with
 |nil=>rfl
 |cons a l ih=>grind[aI]
def Dp(l:List α)(f g:α->Rat):aI l (λa=>f a+g a)=aI l f+aI l g:=by
 induction l with
 |nil=>unfold aI;grind
 |cons a l ih=>grind[aI]
def Ip(l:List α)(f g:α->Rat):aI l (λa=>f a-g a)=aI l f-aI l g:=by
 induction l with
 |nil=>unfold aI;grind
 |cons a l ih=>grind[aI]
def xP(l:List α)(s:Rat)(f:α->Rat):aI l (λa=>s*f a)=s*aI l f:=by
 induction l with
 |nil=>unfold aI;grind
 |cons a l ih=>grind[aI]
def uo{l:List α}{f g:α->Rat}(h:∀a∈l,f a<=g a):aI l f<=aI l g:=by
 induction l with
 |nil=>rfl
 |cons a l ih=>
  grind[aI]
theorem gZ{l:List α}{f:α->Rat}(h:∀a∈l,f a=0):aI l f=0:=by
 rw[dO (g:=λ_=>0) h];clear h;induction l with
 |nil=>rfl
 |cons a l ih=>grind[aI]
def mZ{l:List α}{f:α->Rat}(h:∀a∈l,0<=f a):0<=aI l f:=by have:=uo (f:=λ_=>(0:Rat)) h;simp_all[gZ]
def Ed{n:Nat}(l:List α)(f:α->Nat->Rat):aB n (λi=>aI l λa=>f a i)=aI l λa=>aB n (f a):=by
 induction l with
 |nil=>exact bK λ_ _=>rfl
 |cons a l ih=>simp_all[aI,dB]
end
structure fC where
 rk:fU
 ps:List (List Nat×fU)
def y8(e:fC)(x:Rat)(c:Nat):Rat:=iy e.rk x c
def rts(e:fC)(x:Rat)(c:Nat):Rat:=jU e.rk x 1 c
def pooled(e:fC)(c:Nat):Bool:=e.ps.any λp=>p.1.contains c
def kL(e:fC)(x:Rat)(p:List Nat×fU):Rat:=aI p.1 (y8 e x)
def rW(e:fC)(x:Rat)(p:List Nat×fU):Rat:=aI p.1 (rts e x)
def rX(e:fC)(x:Rat)(c:Nat):Rat:=(if pooled e c then 0 else y8 e x c)+aI e.ps λp=>iy p.2 (kL e x p) c
def Zd(e:fC)(x:Rat):Rat:=aI e.ps λp=>iy p.2 (kL e x p) (-1)
def xQ(e:fC)(x:Rat)(c:Nat):Rat:=(if pooled e c then 0 else rts e x c)+aI e.ps λp=>jU p.2 (kL e x p) (rW e x p) c
def y9(e:fC)(x:Rat):Rat:=aI e.ps λp=>jU p.2 (kL e x p) (rW e x p) (-1)
def jC(a b:Rat):Rat:=if a<=b then a else b
theorem acw(a b:Rat):jC a b<=a/\jC a b<=b:=by grind[jC]
def Dt(e:fC)(x:Rat):List (List Nat×fU)->Rat->Rat
 |[],g=>g
 |p::l,g=>match mG p.2 (kL e x p)with
  |some d=>if 0<rW e x p then Dt e x l (jC g (d/rW e x p))else Dt e x l g
  |none=>Dt e x l g
def Iq(e:fC)(x:Rat):Option Rat:=match mG e.rk x with
 |some g=>some (Dt e x e.ps g)
 |none=>none
def Oq(e:fC)(x:Rat):List (List Nat×fU)->Nat
 |[]=>0
 |p::l=>(p.2.length-dP p.2 (kL e x p))+Oq e x l
def opn(e:fC)(x:Rat):Nat:=(e.rk.length-dP e.rk x)+Oq e x e.ps
structure AB(e:fC):Prop where
 rk:Kq e.rk
 ps:∀p∈e.ps,Kq p.2
section
variable {e:fC}
theorem aaE(h:AB e){x:Rat}(hx:0<=x)(c:Nat):0<=y8 e x c:=UQ h.rk _ hx
theorem aiA(h:AB e){x:Rat}(hx:0<=x)(c:Nat):0<=rts e x c:=aiz h.rk _ jj hx
def mX(h:AB e){x:Rat}(hx:0<=x)(p:List Nat×fU):0<=kL e x p:=mZ λ_ _=>aaE h hx _
def Jv(h:AB e){x:Rat}(hx:0<=x)(p:List Nat×fU):0<=rW e x p:=mZ λ_ _=>aiA h hx _
def Du(h:AB e){x y:Rat}(hx:0<=x)(hy:x<=y)(p:List Nat×fU):kL e x p<=kL e y p:=uo λ_ _=>Il h.rk _ hx hy
def Ot(h:AB e){x y:Rat}(hx:0<=x)(hy:x<=y)(c:Nat):rX e x c<=rX e y c:=by unfold rX;have h1:aI e.ps (λp=>iy p.2 (kL e x p) c)<=aI e.ps (λp=>iy p.2 (kL e y p) c):=uo λp hp=>Il (h.ps p hp) _ (mX h hx p) (Du h hx hy p);have h2:y8 e x c<=y8 e y c:=Il h.rk _ hx hy;grind
def aiB(h:AB e){x y:Rat}(hx:0<=x)(hy:x<=y):Zd e x<=Zd e y:=
 uo λp hp=>Il (h.ps p hp) _ (mX h hx p) (Du h hx hy p)
def Jw(h:AB e){x:Rat}(hx:0<=x)(c:Nat):0<=rX e x c:=by unfold rX;have h1:0<=aI e.ps (λp=>iy p.2 (kL e x p) c):=mZ λp hp=>UQ (h.ps p hp) _ (mX h hx p);grind[aaE]
def qX(h:AB e){x:Rat}(hx:0<=x)(c:Nat):0<=xQ e x c:=by unfold xQ;have h1:0<=aI e.ps (λp=>jU p.2 (kL e x p) (rW e x p) c):=mZ λp hp=>aiz (h.ps p hp) _ (Jv h hx p) (mX h hx p);grind[aiA]
theorem wH(e:fC)(x:Rat):∀(l:List (List Nat×fU)) (g:Rat),Dt e x l g<=g/\∀p∈l,∀d,mG p.2 (kL e x p)=some d->0<rW e x p->Dt e x l g<=d/rW e x p
 |[],g=>⟨aR,λp hp=>by cases hp⟩
 |p::l,g=>by
  unfold Dt;cases hg:mG p.2 (kL e x p)with
  |none=>
   obtain⟨h1,h2⟩:=wH e x l g
   refine⟨h1,λq hq d hd hr=>?_⟩
   rcases bz.mp hq with rfl|hq
   .rw[hg]at hd;cases hd
   .exact h2 q hq d hd hr
  |some d0=>
   dsimp only
   by_cases hr0:0<rW e x p
   .rw[ab hr0]
    obtain⟨h1,h2⟩:=wH e x l (jC g (d0/rW e x p))
    obtain⟨h3,h4⟩:=acw g (d0/rW e x p)
    refine⟨cG h1 h3,λq hq d hd hr=>?_⟩
    rcases bz.mp hq with rfl|hq
    .rw[hg]at hd;cases hd;exact cG h1 h4
    .exact h2 q hq d hd hr
   .rw[ae hr0]
    obtain⟨h1,h2⟩:=wH e x l g
    refine⟨h1,λq hq d hd hr=>?_⟩
    rcases bz.mp hq with rfl|hq
    .exact absurd hr hr0
    .exact h2 q hq d hd hr
theorem AL(e:fC)(x:Rat):∀(l:List (List Nat×fU)) (g:Rat),Dt e x l g=g\/∃p∈l,∃d,mG p.2 (kL e x p)=some d/\0<rW e x p/\Dt e x l g=d/rW e x p
 |[],g=>.inl rfl
 |p::l,g=>by
  unfold Dt;cases hg:mG p.2 (kL e x p)with
  |none=>
   rcases AL e x l g with h|⟨q,hq,d,h1,h2,h3⟩
   .exact .inl h
   .exact .inr ⟨q,by simp[hq],d,h1,h2,h3⟩
  |some d0=>
   dsimp only
   by_cases hr0:0<rW e x p
   .rw[ab hr0]
    rcases AL e x l (jC g (d0/rW e x p))with h|⟨q,hq,d,h1,h2,h3⟩
    .by_cases hm:g<=d0/rW e x p
     .exact .inl (by rw[h];unfold jC;rw[ab hm])
     .exact .inr ⟨p,by simp,d0,hg,hr0,by rw[h];unfold jC;rw[ae hm]⟩
    .exact .inr ⟨q,by simp[hq],d,h1,h2,h3⟩
   .rw[ae hr0]
    rcases AL e x l g with h|⟨q,hq,d,h1,h2,h3⟩
    .exact .inl h
    .exact .inr ⟨q,by simp[hq],d,h1,h2,h3⟩
theorem div_pos{a b:Rat}(ha:0<a)(hb:0<b):0<a/b:=by refine Rat.not_le.mp λhle=>?_;have h1:=bj hle (dE hb);grind[Rat.div_mul_cancel]
def Ee{x g:Rat}(h:Iq e x=some g):0<g:=by grind[Iq,AL,yK,div_pos]
theorem acy(h:AB e){x g s:Rat}(hx:0<=x)(hg:mG e.rk x=some g)(h0:0<=s)(hs:s<=g)(c:Nat):y8 e (x+s) c=y8 e x c+s*rts e x c:=by unfold y8 rts;rw[acu h.rk _ hx hg h0 hs];have:=UR e.rk c s 1 x;grind
theorem UU(h:AB e){x g s:Rat}(hx:0<=x)(hg:mG e.rk x=some g)(h0:0<=s)(hs:s<=g)(p:List Nat×fU):kL e (x+s) p=kL e x p+s*rW e x p:=by unfold kL rW;rw[<-xP,<-Dp];grind[dO,acy]
theorem zi{a b s:Rat}(hb:0<b)(h:s<=a/b):s*b<=a:=by grind[Rat.mul_le_mul_of_nonneg_right,Rat.div_mul_cancel]
theorem zk{a b s:Rat}(hb:0<b)(h:s<a/b):s*b<a:=by grind[Rat.mul_lt_mul_of_pos_right,Rat.div_mul_cancel]
def aiC(h:AB e){x g s:Rat}(hx:0<=x)(hg:mG e.rk x=some g)(h0:0<=s)(hs:s<=Dt e x e.ps g){p:List Nat×fU}(hp:p∈e.ps)(c:Int):
  iy p.2 (kL e (x+s) p) c=iy p.2 (kL e x p) c+s*jU p.2 (kL e x p) (rW e x p) c:=by
 obtain⟨h1,h2⟩:=wH e x e.ps g
 rw[UU h hx hg h0 (cG hs h1),<-UR]
 have hr:=Jv h hx p
 have hsr:=cf h0 hr
 cases hd:mG p.2 (kL e x p)with
 |none=>
  obtain⟨a,-,-⟩:=xO (l:=p.2) c 0 hd hsr
  obtain⟨-,b,-⟩:=xO (l:=p.2) c (s*rW e x p) hd (s:=0) aR
  grind
 |some d=>
  refine acu (h.ps p hp) c (mX h hx p) hd hsr ?_
  by_cases hr0:0<rW e x p
  .grind[zi]
  .have:rW e x p=0:=by grind
   rw[this];have:=yK hd;grind
def UW(h:AB e){x g s:Rat}(hx:0<=x)(hg:Iq e x=some g)(h0:0<=s)(hs:s<=g)(c:Nat):rX e (x+s) c=rX e x c+s*xQ e x c:=by
 unfold Iq at hg;split at hg
 .next g0 hg0=>
  cases hg;unfold rX xQ;rw[dO (λp hp=>aiC h hx hg0 h0 hs hp c),Dp,xP,acy h hx hg0 h0 (cG hs (wH e x e.ps g0).1)];grind
 grind
def XO{x g s:Rat}(hg:mG e.rk x=some g)(h0:0<=s)(hs:s<g)(c:Nat):rts e (x+s) c=rts e x c:=(XM _ _ hg h0 hs).1
def Rj(h:AB e){x g s:Rat}(hx:0<=x)(hg:mG e.rk x=some g)(h0:0<=s)(hs:s<Dt e x e.ps g){p:List Nat×fU}(hp:p∈e.ps)(c:Int):
  jU p.2 (kL e (x+s) p) (rW e (x+s) p) c=jU p.2 (kL e x p) (rW e x p) c:=by
 obtain⟨h1,h2⟩:=wH e x e.ps g
 have hlt:s<g:=by grind
 rw[UU h hx hg h0 (dE hlt)]
 have e1:rW e (x+s) p=rW e x p:=dO λc _=>XO hg h0 hlt c
 rw[e1]
 have hr:=Jv h hx p
 have hsr:=cf h0 hr
 cases hd:mG p.2 (kL e x p)with
 |none=>
  obtain⟨-,a,-⟩:=xO (l:=p.2) c (rW e x p) hd hsr
  obtain⟨-,b,-⟩:=xO (l:=p.2) c (rW e x p) hd (s:=0) aR
  grind
 |some d=>
  refine(XM c _ hd hsr ?_).1
  by_cases hr0:0<rW e x p
  .grind[zk]
  .have:rW e x p=0:=by grind
   rw[this];grind[yK]
def Ef(h:AB e){x g s:Rat}(hx:0<=x)(hg:Iq e x=some g)(h0:0<=s)(hs:s<g):(∀c,xQ e (x+s) c=xQ e x c)/\y9 e (x+s)=y9 e x:=by
 unfold Iq at hg;split at hg
 .next g0 hg0=>
  cases hg;have hlt:s<g0:=by grind[wH]
  refine⟨λc=>?_,?_⟩
  .unfold xQ;rw[dO (λp hp=>Rj h hx hg0 h0 hs hp c),XO hg0 h0 hlt]
  .unfold y9;rw[dO (λp hp=>Rj h hx hg0 h0 hs hp (-1))]
 grind
def XP(h:AB e){x s:Rat}(hg:Iq e x=none)(h0:0<=s):(∀c,rX e (x+s) c=rX e x c/\xQ e (x+s) c=0)/\Zd e (x+s)=Zd e x/\y9 e (x+s)=0/\Iq e (x+s)=none:=by
 unfold Iq at hg;split at hg
 .cases hg
 .next hn=>
  have h1:∀c,y8 e (x+s) c=y8 e x c:=λc=>(xO (l:=e.rk) c 1 hn h0).1;have h2:∀c,rts e (x+s) c=0:=λc=>(xO (l:=e.rk) c 1 hn h0).2.1;have h3:∀p,kL e (x+s) p=kL e x p:=λp=>dO λc _=>h1 c;have h4:∀p,rW e (x+s) p=0:=λp=>gZ λc _=>h2 c;refine⟨λc=>⟨?_,?_⟩,?_,?_,?_⟩
  .grind[rX]
  .grind[xQ,gZ,XL]
  .grind[Zd]
  .grind[y9,gZ,XL]
  .unfold Iq;rw[(xO (l:=e.rk) 0 1 hn h0).2.2]
def Eh(h:AB e){x y:Rat}(hx:0<=x)(hy:x<=y):∀l,Oq e y l<=Oq e x l
 |[]=>jp
 |p::l=>by unfold Oq;have:=Eh h hx hy l;have:=Io (l:=p.2) (Du h hx hy p);omega
def acz(h:AB e){x y:Rat}(hx:0<=x)(hy:x<=y){p:List Nat×fU}(hlt:dP p.2 (kL e x p)<dP p.2 (kL e y p)):∀l,p∈l->Oq e y l<Oq e x l
 |q::l,hp=>by
  unfold Oq;have h1:=Io (l:=q.2) (Du h hx hy q);rcases bz.mp hp with rfl|hp
  .have:=Eh h hx hy l;grind[Om]
  .have:=acz h hx hy hlt l hp;omega
def XQ(h:AB e){x y:Rat}(hx:0<=x)(hy:x<=y):opn e y<=opn e x:=by unfold opn;have:=Eh h hx hy e.ps;have:=Io (l:=e.rk) hy;omega
def AP(h:AB e){x g:Rat}(hx:0<=x)(hg:Iq e x=some g):opn e (x+g)<opn e x:=by
 have hp:=Ee hg;have hle:x<=x+g:=by grind
 unfold Iq at hg;split at hg
 .next g0 hg0=>
  cases hg;unfold opn;rcases AL e x e.ps g0 with h1|⟨p,hp,d,h1,h2,h3⟩
  .have a:=Eh h hx hle e.ps;grind[acv,Om]
  .have b:dP p.2 (kL e x p)<dP p.2 (kL e (x+Dt e x e.ps g0) p):=by grind[UU,wH,acv]
   have:=acz h hx hle b e.ps hp;have:=Io (l:=e.rk) hle;omega
 grind
end
end Go.Proofs.Ins
