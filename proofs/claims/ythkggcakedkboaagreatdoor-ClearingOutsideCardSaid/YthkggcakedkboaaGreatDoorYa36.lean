import Derived.Test.YthkggcakedkboaaGreatDoorYa35
set_option linter.all false
set_option maxRecDepth 100000
set_option maxHeartbeats 8000000
namespace Go.Proofs.Ins
def Fa(i r:Nat):Nat:=if r<i then r else r+1
def sg1(k:Nat):Rat:=if k%2=0 then 1 else-1
def jy:Nat->(Nat->Nat->Rat)->Rat
 |0,_=>1
 |k+1,A=>aB (k+1) λi=>sg1 (i+k)*A k i*jy k λc r=>A c (Fa i r)
def iL(A:Nat->Nat->Rat)(a:Nat)(u:Nat->Rat)(c r:Nat):Rat:=if c=a then u r else A c r
def abx{i r k:Nat}(hi:i<k+1)(hr:r<k):Fa i r<k+1:=by grind[Fa]
theorem uh:∀(k:Nat) (A B:Nat->Nat->Rat),(∀c r,c<k->r<k->A c r=B c r)->jy k A=jy k B
 |0,_,_,_=>rfl
 |k+1,A,B,h=>by unfold jy;refine aK λi hi=>?_;rw[h k i jb hi,uh k (λc r=>A c (Fa i r)) (λc r=>B c (Fa i r)) λc r hc hr=>h c _ jb (abx hi hr)]
def Bh:∀(k:Nat) (A:Nat->Nat->Rat) (a:Nat) (u w:Nat->Rat) (s:Rat),a<k->jy k (iL A a λr=>u r+s*w r)=jy k (iL A a u)+s*jy k (iL A a w)
 |0,_,_,_,_,_,h=>jb
 |k+1,A,a,u,w,s,ha=>by
  unfold jy;rw[<-gQ,<-dF];refine aK λi hi=>?_;by_cases e:a=k
  .subst e;have h:∀u',jy a (λc r=>iL A a u' c (Fa i r))=jy a λc r=>A c (Fa i r):=λu'=>uh a _ _ λc r hc hr=>by unfold iL;rw[ae jb]
   rw[h,h,h];unfold iL;rw[ab rfl,ab rfl,ab rfl];grind
  .have h:∀u',(λc r=>iL A a u' c (Fa i r))=iL (λc r=>A c (Fa i r)) a λr=>u' (Fa i r):=λu'=>by funext c r;unfold iL;split<;>rfl
   have h2:∀u',iL A a u' k i=A k i:=λu'=>by unfold iL;rw[ae jb]
   rw[h,h,h,h2,h2,h2];have:=Bh k (λc r=>A c (Fa i r)) a (λr=>u (Fa i r)) (λr=>w (Fa i r)) s jb;rw[this];grind
theorem SK(A:Nat->Nat->Rat)(a:Nat):iL A a (A a)=A:=by grind[iL]
def akf{k:Nat}(halt:∀(A:Nat->Nat->Rat) (a b:Nat),a<b->b<k->(∀r,r<k->A a r=A b r)->jy k A=0)(A:Nat->Nat->Rat){a b:Nat}(hab:a<b)(hb:b<k):
  jy k (iL (iL A a (A b)) b (A a))=-jy k A:=by
 have hne:a≠b:=jb
 have hcomm:∀u v,iL (iL A a u) b v=iL (iL A b v) a u:=λu v=>by grind[iL]
 have h0:=halt (iL (iL A a λr=>A a r+1*A b r) b λr=>A a r+1*A b r) a b hab hb λr _=>by grind[iL]
 have e:∀u v,(∀r,r<k->u r=v r)->jy k (iL (iL A a u) b v)=0:=λu v h=>halt _ a b hab hb λr hr=>by grind[iL]
 rw[Bh k _ b (A a) (A b) 1 hb]at h0
 rw[hcomm _ (A a),hcomm _ (A b),Bh k _ a (A a) (A b) 1 jb,Bh k _ a (A a) (A b) 1 jb]at h0
 grind[SK]
def aoe{n p:Nat}(hp:p<n+1)(f:Nat->Rat):aB n (λi=>f (Fa p i))=aB (n+1) λq=>if q=p then 0 else f q:=by
 induction n generalizing p with
 |zero=>grind[aB]
 |succ n ih=>
  rw[aB,aB]
  by_cases e:p=n+1
  .grind[aB,aK,Fa]
  .rw[ih jb,ae (λh=>e h.symm)]
   grind[Fa]
theorem aof(a b:Nat):sg1 (a+b)=sg1 a*sg1 b:=by grind[sg1]
def KQ(p q:Nat):Nat:=if q<p then q else q-1
def aog{p i:Nat}:KQ p (Fa p i)=i:=by grind[Fa,KQ]
theorem aoh{p q:Nat}(h:p≠q)(r:Nat):Fa p (Fa (KQ p q) r)=Fa q (Fa (KQ q p) r):=by grind[KQ,Fa]
theorem as9{p q:Nat}(h:p≠q):sg1 p*sg1 (KQ p q)=-(sg1 q*sg1 (KQ q p)):=by grind[KQ,sg1]
theorem adr(m:Nat)(A:Nat->Nat->Rat)(h:∀r,r<m+2->A m r=A (m+1) r):jy (m+2) A=0:=by
 obtain⟨S,hS⟩:∃S:Nat->Nat->Rat,S=λp q=>if q=p then 0 else sg1 (p+(m+1))*A m p*(sg1 (KQ p q+m)*A m q*jy m λc r=>A c (Fa p (Fa (KQ p q) r))):=⟨_,rfl⟩
 have h1:jy (m+2) A=aB (m+2) λp=>aB (m+2) λq=>S p q:=by rw[jy];refine aK λp hp=>?_;rw[jy,<-h p hp,<-gQ];have e:=aoe (n:=m+1) hp λq=>sg1 (p+(m+1))*A m p*(sg1 (KQ p q+m)*A m q*jy m λc r=>A c (Fa p (Fa (KQ p q) r)));rw[hS];dsimp only;rw[<-e];exact aK λi _=>by rw[aog]
 have h2:∀p q,S p q=-S q p:=λp q=>by grind[aoh,as9,aof]
 have h3:aB (m+2) (λp=>aB (m+2) λq=>S p q)=-aB (m+2) λp=>aB (m+2) λq=>S p q:=by
  have a:aB (m+2) (λp=>aB (m+2) λq=>S p q)=aB (m+2) λp=>(-1)*aB (m+2) λq=>S q p:=aK λp _=>by rw[<-gQ];grind
  rw[gQ,<-zW (m+2) (m+2) λp q=>S p q]at a;grind
 grind
theorem I7:∀(k:Nat) (A:Nat->Nat->Rat) (a b:Nat),a<b->b<k->(∀r,r<k->A a r=A b r)->jy k A=0
 |0,_,_,_,_,h,_=>jb
 |k+1,A,a,b,hab,hb,h=>by
  by_cases e:b=k
  .subst e;obtain⟨m,rfl⟩:∃m,b=m+1:=⟨b-1,jb⟩
   by_cases e2:a=m
   .grind[adr]
   ·--swap columns a and m
    have hs:=adr m (iL (iL A a (A m)) m (A a)) λr hr=>by grind[iL]
    have:jy (m+2) (iL (iL A a (A m)) m (A a))=-jy (m+2) A:=by
     unfold jy;have e3:∀i,jy (m+1) (λc r=>iL (iL A a (A m)) m (A a) c (Fa i r))=-jy (m+1) λc r=>A c (Fa i r):=λi=>by rw[<-akf (k:=m+1) (I7 (m+1)) (λc r=>A c (Fa i r)) (a:=a) (b:=m) jb jb];refine uh _ _ _ λc r _ _=>?_;unfold iL;split<;>(try split)<;>rfl
     have e4:∀i,iL (iL A a (A m)) m (A a) (m+1) i=A (m+1) i:=λi=>by unfold iL;rw[ae jb,ae jb]
     rw[show∀x:Rat,-x=(-1)*x by intro x;grind,<-gQ];exact aK λi _=>by rw[e3,e4];grind
    rw[hs]at this;grind
  .unfold jy;exact bK λi hi=>by rw[I7 k (λc r=>A c (Fa i r)) a b hab jb λr hr=>h _ (abx hi hr)];grind
def akg{k a:Nat}(A:Nat->Nat->Rat)(ha:a<k):jy k (iL A a λ_=>0)=0:=by have:=Bh k A a (λ_=>0) (λ_=>0) 1 ha;grind
def Pz{k a:Nat}(A:Nat->Nat->Rat)(ha:a<k)(x:Nat->Rat)(B:Nat->Nat->Rat):∀m,jy k (iL A a λr=>aB m λl=>x l*B l r)=aB m λl=>x l*jy k (iL A a (B l))
 |0=>akg A ha
 |m+1=>by have:(λr=>aB (m+1) λl=>x l*B l r)=λr=>aB m (λl=>x l*B l r)+x m*B m r:=rfl;rw[this,Bh k A a _ _ _ ha,Pz A ha x B m];rfl
def ata{k i:Nat}(A:Nat->Nat->Rat)(hi:i<k)(x w:Nat->Rat)(h:∀r,r<k->w r=aB k λl=>A l r*x l):jy k (iL A i w)=x i*jy k A:=by
 have e:jy k (iL A i w)=jy k (iL A i λr=>aB k λl=>x l*A l r):=uh k _ _ λc r _ hr=>by grind[iL]
 rw[e,Pz A hi];rw[jq hi λl hl hne=>?_,SK];have:jy k (iL A i (A l))=0:=by
  rcases Nat.lt_or_gt_of_ne hne with hlt|hlt
  .grind[I7,iL]
  grind[I7,iL]
 grind
def akh{k:Nat}(A:Nat->Nat->Rat)(x:Nat->Rat)(h:∀r,r<k->A k r=aB k λl=>A l r*x l):jy (k+1) A=(A k k-aB k λl=>A l k*x l)*jy k A:=by
 obtain⟨s,hs⟩:∃s,s=A k k-aB k λl=>A l k*x l:=⟨_,rfl⟩
 have e:jy (k+1) A=jy (k+1) (iL A k λr=>aB k (λl=>x l*A l r)+s*(if r=k then 1 else 0)):=uh _ _ _ λc r hc hr=>by grind[iL]
 rw[e,Bh _ _ _ _ _ _ jb,Pz A jb,bK λl hl=>?_,<-hs]
 .have:jy (k+1) (iL A k λr=>if r=k then 1 else 0)=jy k A:=by
   rw[show jy (k+1) (iL A k λr=>if r=k then 1 else 0)=aB (k+1) λi=>sg1 (i+k)*iL A k (λr=>if r=k then 1 else 0) k i*jy k λc r=>iL A k (λr=>if r=k then 1 else 0) c (Fa i r)from rfl];rw[jq (k:=k) jb λi _ hne=>?_]
   .grind[Go.Proofs.Ins.sg1,Go.Proofs.Ins.iL,Go.Proofs.Ins.uh,Go.Proofs.Ins.Fa]
   grind[iL]
  grind
 grind[I7,iL]
def FP(q:Rat):Prop:=∃z:Int,q=(z:Rat)
theorem FP.add{a b:Rat}(ha:FP a)(hb:FP b):FP (a+b):=by obtain⟨x,rfl⟩:=ha;obtain⟨y,rfl⟩:=hb;exact⟨x+y,by simp⟩
def FP.mul{a b:Rat}(ha:FP a)(hb:FP b):FP (a*b):=by obtain⟨x,rfl⟩:=ha;obtain⟨y,rfl⟩:=hb;exact⟨x*y,by simp⟩
def FP.neg{a:Rat}(ha:FP a):FP (-a):=by obtain⟨x,rfl⟩:=ha;exact⟨-x,by rfl⟩
def FP.sub{a b:Rat}(ha:FP a)(hb:FP b):FP (a-b):=by rw[iz];exact ha.add hb.neg
theorem FP.sum{n:Nat}{f:Nat->Rat}(h:∀i,i<n->FP (f i)):FP (aB n f):=by
 induction n with
 |zero=>exact⟨0,rfl⟩
 |succ n ih=>exact(ih λi hi=>h i jb).add (h n jb)
theorem FP.sg1(k:Nat):FP (sg1 k):=by unfold Ins.sg1;split;exact⟨1,rfl⟩;exact⟨-1,rfl⟩
def Vy:∀(k:Nat) (A:Nat->Nat->Rat),(∀c r,c<k->r<k->FP (A c r))->FP (jy k A)
 |0,_,_=>⟨1,rfl⟩
 |k+1,A,h=>by unfold jy;exact .sum λi hi=>((FP.sg1 _).mul (h k i jb hi)).mul (Vy k _ λc r hc hr=>h c _ jb (abx hi hr))
structure Bar(n k:Nat)(B W:Nat->Nat->Rat)(p:Rat):Prop where
 int:∀i j,i<n->j<=n->FP (B i j)
 p0:p≠0
 pd:p=jy k λc r=>B r c
 ex:∃X:Nat->Nat->Rat,(∀r j,r<k->j<=n->B r j=aB k λl=>B r l*X l j)/\(∀l j,l<k->j<k->X l j=if l=j then 1 else 0)/\(∀l j,l<k->j<=n->W l j=p*X l j)/\∀i j,k<=i->i<n->j<=n->W i j=p*(B i j-aB k λl=>B i l*X l j)
def afV{n:Nat}{B:Nat->Nat->Rat}(h:∀i j,i<n->j<=n->FP (B i j)):Bar n 0 B B 1:=
 ⟨h,jj,rfl,λ_ _=>0,λr j hr=>jb,λl j hl=>jb,λl j hl=>jb,λi j _ _ _=>by rw[aB];grind⟩
def Bar.isZ{n k:Nat}{B W:Nat->Nat->Rat}{p:Rat}(h:Bar n k B W p)(hk:k<=n):FP p/\∀i j,i<n->j<=n->FP (W i j):=by
 have hp:FP p:=by rw[h.pd];exact Vy k _ λc r hc hr=>h.int r c jb jb
 obtain⟨X,h1,h2,h3,h4⟩:=h.ex;have h5:∀l j,l<k->j<=n->FP (p*X l j):=λl j hl hj=>by
  have:=ata (k:=k) (i:=l) (λc r=>B r c) hl (λl=>X l j) (λr=>B r j) λr hr=>h1 r j hr hj;rw[fY,h.pd,<-this];refine Vy k _ λc r hc hr=>?_;unfold iL;split
  .exact h.int r j jb hj
  .exact h.int r c jb jb
 refine⟨hp,λi j hi hj=>?_⟩;by_cases hik:i<k
 .grind
 .rw[h4 i j jb hi hj];have:p*(B i j-aB k λl=>B i l*X l j)=p*B i j-aB k λl=>B i l*(p*X l j):=by
   have e:aB k (λl=>B i l*(p*X l j))=p*aB k λl=>B i l*X l j:=by rw[<-gQ];grind
   grind
  rw[this];exact(hp.mul (h.int i j hi hj)).sub (.sum λl hl=>(h.int i l hi jb).mul (h5 l j hl hj))
def JY(W:Nat->Nat->Rat)(k:Nat)(p:Rat)(i j:Nat):Rat:=if i=k then W k j else(W k k*W i j-W i k*W k j)/p
def Bar.swap{n k:Nat}{B W:Nat->Nat->Rat}{p:Rat}(h:Bar n k B W p)(hk:k<n){a:Nat}(ha:k<=a)(han:a<n):Bar n k (λi=>B (swp k a i)) (λi=>W (swp k a i)) p:=by
 obtain⟨X,h1,h2,h3,h4⟩:=h.ex;have hlo:∀i,i<k->swp k a i=i:=λi hi=>by grind[swp]
 have hhi:∀i,k<=i->i<n->k<=swp k a i/\swp k a i<n:=λi hi hin=>by grind[swp]
 refine⟨λi j hi hj=>h.int _ j (oH hk han hi) hj,h.p0,?_,X,λr j hr hj=>?_,h2,λl j hl hj=>?_,λi j hi hin hj=>?_⟩
 .rw[h.pd];exact uh k _ _ λc r _ hr=>by rw[hlo r hr]
 .rw[hlo r hr];exact h1 r j hr hj
 .rw[hlo l hl];exact h3 l j hl hj
 grind
def Bar.step{n k:Nat}{B W:Nat->Nat->Rat}{p:Rat}(h:Bar n k B W p)(hk:k<n)(h0:W k k≠0):Bar n (k+1) B (JY W k p) (W k k):=by
 obtain⟨X,h1,h2,h3,h4⟩:=h.ex;have hp0:=h.p0;obtain⟨R,hR⟩:∃R:Nat->Nat->Rat,R=λi j=>B i j-aB k λl=>B i l*X l j:=⟨_,rfl⟩
 have hRe:∀i j,R i j=B i j-aB k λl=>B i l*X l j:=λi j=>by rw[hR]
 have hW:∀i j,k<=i->i<n->j<=n->W i j=p*R i j:=λi j a b d=>by grind
 have hs:R k k≠0:=λe=>h0 kd;have hWk:=hW k k jp hk jb;obtain⟨Y,hY⟩:∃Y:Nat->Rat,∀j,Y j*R k k=R k j:=⟨λj=>R k j/R k k,λj=>de hs⟩
 have hpd:W k k=jy (k+1) λc r=>B r c:=by rw[akh (λc r=>B r c) (λl=>X l k) λr hr=>h1 r k hr jb,<-h.pd,hWk,hRe,fY]
 have key:∀i j,aB (k+1) (λl=>B i l*(if l=k then Y j else X l j-X l k*Y j))=aB k (λl=>B i l*X l j)+R i k*Y j:=λi j=>by
  rw[aB,ab rfl];have e:aB k (λl=>B i l*(if l=k then Y j else X l j-X l k*Y j))=aB k (λl=>B i l*X l j)-aB k (λl=>B i l*X l k)*Y j:=by rw[<-qh,<-iH];exact aK λl hl=>by rw[ae jb];grind
  grind
 have hdiv:∀a:Rat,(a*p)/p=a:=λa=>by rw[Rat.div_def,Rat.mul_assoc,Rat.mul_inv_cancel _ hp0,Rat.mul_one]
 refine⟨h.int,h0,hpd,λl j=>if l=k then Y j else X l j-X l k*Y j,λr j hr hj=>?_,λl j hl hj=>?_,λl j hl hj=>?_,λi j hi hin hj=>?_⟩
 .rw[key];by_cases e:r=k
  .subst e;have:=hY j;have:=hRe r j;grind
  .have h5:=h1 r j jb hj;have h6:R r k=0:=by have:=h1 r k jb jb;rw[hRe];grind
   rw[h6];grind
 .dsimp only;by_cases e:l=k
  .rw[ab e];by_cases e2:j=k
   .rw[ab jb];have:=hY k;have e3:Y k=1:=by
     have:(Y k-1)*R k k=0:=by grind
     rcases gP.mp this with e|e
     .grind
     .exact absurd e hs
    rw[e2];exact e3
   .rw[ae jb];have h5:R k j=0:=by rw[hRe,jq (k:=j) jb λl hl hne=>by rw[h2 l j hl jb,ae hne];grind,h2 j j jb jb,ab rfl];grind
    have:=hY j;rw[h5]at this;rcases gP.mp this with e|e
    .exact e
    .exact absurd e hs
  .rw[ae e];by_cases e2:j=k
   .subst e2;have e3:Y j=1:=by
     have:=hY j;have:(Y j-1)*R j j=0:=by grind
     rcases gP.mp this with e|e
     .grind
     .exact absurd e hs
    rw[e3,ae e];grind
   .have h5:R k j=0:=by rw[hRe,jq (k:=j) jb λl hl hne=>by rw[h2 l j hl jb,ae hne];grind,h2 j j jb jb,ab rfl];grind
    have e4:Y j=0:=by
     have:=hY j;rw[h5]at this;rcases gP.mp this with e|e
     .exact e
     .exact absurd e hs
    rw[e4,h2 l j jb jb];grind
 .unfold JY;dsimp only;by_cases e:l=k
  .subst e;rw[ab rfl,ab rfl,hWk,hW l j jp hk hj,<-hY j];grind
  .rw[ae e,ae e,hWk,hW k j jp hk hj,h3 l j jb hj,h3 l k jb jb,<-hY j];have:p*R k k*(p*X l j)-p*X l k*(p*(Y j*R k k))=(p*R k k*(X l j-X l k*Y j))*p:=by grind
   rw[this,hdiv]
 grind[JY]
def Bar.pivot{n k:Nat}{B W:Nat->Nat->Rat}{p:Rat}(h:Bar n k B W p)(hk:k<n)(hinj:∀z:Nat->Rat,(∀i,i<n->aB n (λj=>B i j*z j)=0)->∀j,j<n->z j=0):∃i,k<=i/\i<n/\W i k≠0:=by
 refine bp λhno=>?_;obtain⟨X,h1,h2,h3,h4⟩:=h.ex;have hz:∀i,i<n->aB n (λj=>B i j*(if j=k then 1 else if j<k then-X j k else 0))=0:=λi hi=>by
  have e:aB n (λj=>B i j*(if j=k then 1 else if j<k then-X j k else 0))=B i k-aB k λl=>B i l*X l k:=by
   have e1:∀m,m<=n-k-1->aB (k+1+m) (λj=>B i j*(if j=k then 1 else if j<k then-X j k else 0))=B i k-aB k λl=>B i l*X l k:=by
    intro m;induction m with
    |zero=>
     intro _
     rw[cD,aB,ab rfl]
     have:aB k (λj=>B i j*(if j=k then 1 else if j<k then-X j k else 0))=(-1)*aB k λl=>B i l*X l k:=by rw[<-gQ];exact aK λj hj=>by rw[ae jb,ab hj];grind
     rw[this];grind
    |succ m ih=>
     intro hm
     rw[<-Nat.add_assoc,aB,ih jb,ae jb,ae jb];grind
   have:=e1 (n-k-1) jp;grind
  rw[e];by_cases hik:i<k
  .have:=h1 i k hik jb;grind
  .have h5:W i k=0:=bp λhne=>hno ⟨i,jb,hi,hne⟩;rw[h4 i k jb hi jb]at h5;rcases gP.mp h5 with e|e
   .exact absurd e h.p0
   .exact e
 have:=hinj _ hz k hk;grind
def Bar.done{n:Nat}{B W:Nat->Nat->Rat}{p:Rat}(h:Bar n n B W p):(∀i,i<n->W i i≠0)/\∀i,i<n->aB n (λl=>B i l*(W l n/W l l))=B i n:=by
 obtain⟨X,h1,h2,h3,h4⟩:=h.ex;have hd:∀l,l<n->W l l=p:=λl hl=>by grind
 refine⟨λi hi=>by rw[hd i hi];exact h.p0,λi hi=>?_⟩;rw[h1 i n hi jp];refine aK λl hl=>?_;rw[hd l hl,h3 l n hl jp];congr 1;rw[fY,Rat.div_def,Rat.mul_assoc,Rat.mul_inv_cancel _ h.p0,Rat.mul_one]
end Go.Proofs.Ins
namespace Go.Proofs.Xe
open Go.RowKit Go.Proofs.Ins
def lN(b:Nat)(q:Rat):Prop:=∃(z:Int) (Q:Nat),0<Q/\Q<=2^b/\z.natAbs<=2^b/\q=(z:Rat)/(Q:Rat)
def ads{b:Nat}:2^b<256^(b/8+1):=by have e:(2:Nat)^(8*(b/8+1))=(2^8)^(b/8+1):=Nat.pow_mul 2 8 _;have e2:(2:Nat)^8=256:=rfl;rw[e2]at e;rw[<-e];exact Nat.pow_lt_pow_right jj jb
theorem yO{a b:Nat}(h:a<=b):2^a<=2^b:=bN jj h
def oI{a b x y:Nat}(h:x<=2^a)(h':y<=2^b):x*y<=2^(a+b):=by simp_all[dE,cG]
def lN.sz{b:Nat}{q:Rat}(h:lN b q)(hb:b<=200000000):Sz q:=by obtain⟨z,Q,h1,h2,h3,rfl⟩:=h;have a:Sm (b/8+1) (z:Rat):=Sm.int jb (cT h3 ads);have c:Sm (b/8+1) ((Q:Int):Rat):=Sm.int jb (cT jb ads);exact(a.div c (iI h1)).mono (by unfold szK;omega)
def lN.mono{a b:Nat}{q:Rat}(h:lN a q)(hab:a<=b):lN b q:=by obtain⟨z,Q,h1,h2,h3,e⟩:=h;exact⟨z,Q,h1,az h2 (yO hab),az h3 (yO hab),e⟩
def lN.int{b:Nat}{z:Int}(h:z.natAbs<=2^b):lN b (z:Rat):=⟨z,1,jj,gR,h,by grind⟩
def lN.mul{a b:Nat}{p q:Rat}(h:lN a p)(h':lN b q):lN (a+b) (p*q):=by obtain⟨z,Q,h1,h2,h3,rfl⟩:=h;obtain⟨y,R,k1,k2,k3,rfl⟩:=h';refine⟨z*y,Q*R,cw h1 k1,by simp_all[dE,cG],by simp_all[fm,dE,cG],?_⟩;grind
def lN.neg{a:Nat}{p:Rat}(h:lN a p):lN a (-p):=by obtain⟨z,Q,h1,h2,h3,rfl⟩:=h;refine⟨-z,Q,h1,h2,jb,?_⟩;grind
def aby{s:Int}(h:s=1\/s=-1):(s:Rat)*(s:Rat)=1:=by rw[<-cY];rcases h with rfl|rfl<;>rfl
def awE{s:Rat}(h:s*s=1):s≠0:=λe=>by grind
def Vz(z:Int):∃s:Int,(s=1\/s=-1)/\((z.natAbs:Nat):Rat)=(s:Rat)*(z:Rat):=by
 have key:∀w:Int,(z.natAbs:Int)=w->((z.natAbs:Nat):Rat)=(w:Rat):=λw h=>by
  have:(((z.natAbs:Nat):Int):Rat)=(w:Rat):=by rw[h]
  exact this
 rcases Int.le_total 0 z with h0|h0
 .grind
 .refine⟨-1,.inr rfl,?_⟩;rw[key (-z) jb,Rat.intCast_neg];grind
def lN.div{a b:Nat}{p q:Rat}(h:lN a p)(h':lN b q)(h0:q≠0):lN (a+b) (p/q):=by
 obtain⟨z,Q,h1,h2,h3,rfl⟩:=h;obtain⟨y,R,k1,k2,k3,rfl⟩:=h';have hy:y≠0:=λe=>h0 (by rw[e];grind);obtain⟨s,hs,es⟩:=Vz y;have hyr:(y:Rat)≠0:=λe=>hy (fe.mp e);have hss:=aby hs;refine⟨s*(z*R),Q*y.natAbs,cw h1 jb,by simp_all[dE,cG],?_,?_⟩
 .have e:(s*(z*R)).natAbs=z.natAbs*R:=by grind[Int.natAbs_mul]
  simp_all[dE,cG]
 .have a1:=iI h1;have a2:=iI k1;rw[cY,cY,fa,es];have e2:(((R:Nat):Int):Rat)=(R:Rat):=rfl;grind
def DU(rows m a:Nat)(A:Nat->Nat->Rat):Prop:=∃Q:Nat,0<Q/\Q<=2^a/\∀i k,i<rows->k<m->∃z:Int,A i k=(z:Rat)/(Q:Rat)/\z.natAbs<=2^a
section
variable {rows m a b r p c:Nat} {A:Nat→Nat→Rat}
def DU.rat(h:DU rows m a A){i k:Nat}(hi:i<rows)(hk:k<m):lN a (A i k):=by obtain⟨Q,h1,h2,h3⟩:=h;obtain⟨z,e,hz⟩:=h3 i k hi hk;exact⟨z,Q,h1,h2,hz,e⟩
def DU.mono(h:DU rows m a A)(hab:a<=b):DU rows m b A:=by obtain⟨Q,h1,h2,h3⟩:=h;refine⟨Q,h1,az h2 (yO hab),λi k hi hk=>?_⟩;grind[Nat.le_trans,yO]
theorem DU.elim(h:DU rows m a A)(hr:r<rows)(hp:p<rows)(hc:c<m)(h0:A p c≠0):DU rows m (2*a+1) (elim A r p c):=by
 obtain⟨Q,h1,h2,h3⟩:=h;obtain⟨P,eP,hP⟩:=h3 p c hp hc;have hP0:P≠0:=λe=>h0 (by rw[eP,e];grind);obtain⟨s,hs,es⟩:=Vz P;have hPr:(P:Rat)≠0:=λe=>hP0 (fe.mp e);have hss:=aby hs;have a1:=iI h1;have e2:(2:Nat)^(2*a+1)=2^a*2^a+2^a*2^a:=by rw[dq,Nat.two_mul a,dE];omega
 have hQP:Q*P.natAbs<=2^a*2^a:=cG h2 hP;have hab:∀x:Int,(s*x).natAbs=x.natAbs:=λx=>by grind
 refine⟨Q*P.natAbs,cw h1 jb,jb,λi k hi hk=>?_⟩;obtain⟨z,ez,hz⟩:=h3 p k hp hk;unfold Ins.elim;have hs0:=awE hss;by_cases e:i=r
 .rw[ab e];refine⟨s*(z*Q),?_,?_⟩
  .rw[ez,eP,cY,cY,fa,es];have e3:(((Q:Nat):Int):Rat)=(Q:Rat):=rfl;grind
  .rw[hab,fm,gS];have:=cG hz h2;omega
 .rw[ae e];obtain⟨y,ey,hy⟩:=h3 _ k (oH hr hp hi) hk;obtain⟨w,ew,hw⟩:=h3 _ c (oH hr hp hi) hc;refine⟨s*(y*P-w*z),?_,?_⟩
  .rw[ey,ew,ez,eP,cY,Rat.intCast_sub,cY,cY,fa,es];generalize (s:Rat)=s at*;generalize (P:Rat)=P at*;grind
  .rw[hab];have k1:=cG hy hP;have k2:=cG hw hz;have k3:(y*P-w*z).natAbs<=(y*P).natAbs+(w*z).natAbs:=jb;rw[fm,fm]at k3;omega
def KR(a:Nat):Nat->Nat
 |0=>a
 |c+1=>2*KR a c+1
def Ae(a:Nat){c:Nat}:∀{d:Nat},c<=d->KR a c<=KR a d
 |0,h=>by grind
 |d+1,h=>by
  rcases fH c (d+1)with h2|h2
  .have:=Ae a (c:=c) (d:=d) jb;show _<=2*KR a d+1;omega
  grind
def aki(a:Nat):∀c,a<=KR a c:=λc=>Ae a (bz c)
def SL(h:DU rows m a A):∀{c:Nat},c<=m->DU rows m (KR a c) (ech rows A c).1
 |0,_=>h
 |c+1,hc=>by
  have ih:=SL h (c:=c) jb;show DU rows m (2*KR a c+1) (Qr rows (ech rows A c).1 (ech rows A c).2 c).1;generalize (ech rows A c).1=A' at*;generalize (ech rows A c).2=P;unfold Qr;split
  .split
   .next h1 h2=>
    obtain⟨-,-,h3⟩:=EF A' c (rows-P.length) P.length;exact ih.elim h1 h2 jb (h3 jb)
   .exact ih.mono jb
  .exact ih.mono jb
def abz(rows:Nat)(A:Nat->Nat->Rat)(P:List Nat)(c:Nat)(q:Rat):Rat:=
 if P.length<rows then
  (if P.length+uT A c P.length (rows-P.length)<rows then(if uT A c P.length (rows-P.length)=0 then q else-q)*A (P.length+uT A c P.length (rows-P.length)) c else q)
 else q
def wL(rows:Nat)(A:Nat->Nat->Rat):Nat->Rat
 |0=>1
 |c+1=>abz rows (ech rows A c).1 (ech rows A c).2 c (wL rows A c)
def abA(h:DU rows m a A):∀{c:Nat},c<=m->lN (KR a c) (wL rows A c)
 |0,_=>lN.int (z:=1) (gR)
 |c+1,hc=>by
  have ih:=abA h (c:=c) jb;have hA:=SL h (c:=c) jb;show lN (2*KR a c+1) (abz rows (ech rows A c).1 (ech rows A c).2 c (wL rows A c));generalize (ech rows A c).1=A' at*;generalize (ech rows A c).2=P;unfold abz;split
  .split
   .next h1 h2=>
    refine lN.mono (lN.mul (a:=KR a c) ?_ (hA.rat h2 jb)) jb;split
    .exact ih
    .exact ih.neg
   .exact ih.mono jb
  .exact ih.mono jb
end
def atb:((true:Bool)==true)=true:=rfl
def atc:((true:Bool)==false)=false:=rfl
def atd:((false:Bool)==true)=false:=rfl
def ate:((false:Bool)==false)=true:=rfl
def awF(q:Rat):decide (Int.ofNat 0<sg q)=decide (0<q):=by
 rcases qC q with⟨h,h2⟩|⟨h,h2⟩|⟨h,h2⟩
 .rw[h,ap (by grind:¬0<q)];rfl
 .rw[h,ap (by grind:¬0<q)];rfl
 .rw[h,bh h2];rfl
def awG(p q:Rat):Jq p q=jv p q:=by
 unfold Jq jv;by_cases h:p<=q
 .rw[ab h,ab (wB.mpr h)]
 .rw[ae h,ae λh2=>h (wB.mp h2)]
attribute [go_sem] atb atc atd ate awF awG
structure SOk(e:fA)(m:Rat):Prop where
 rk:∀g,mG e.rk m=some g->Sz g
 ps:∀p∈e.ps,∀g,mG p.2 (kK e m p)=some g->Sz g/\Sz (g/rY e m p)
def aoi{a b:Rat}(ha:Sz a)(hb:Sz b):Sz (jv a b):=by unfold jv;split<;>assumption
def atf{σ:St}(hW:WF σ){n:Nat}{rv pv:B}(t:Rat)(e:fA)(hL:JG σ.h rv pv e)(m:Rat){D:Nat}(hD:BJ D)(he:EOk D n e)(hm:MOk D e m)(hR:ROk D e m)(hS:SOk e m):
  aC EN 152 [.agg (jB n rv pv t),.agg [.bool (rn m),.str (rs m),.str (rd m)]] σ λr σ'=>r=(match Iz e m with|some g=>.aW (.agg [.bool (rn g),.str (rs g),.str (rd g)]) (.aW (.c (.bool true)) .tnil)|none=>.aW (.agg [.bool (rn 0),.str (rs 0),.str (rd 0)]) (.aW (.c (.bool false)) .tnil))/\Fr σ σ':=by
 refine aN (lI.o _ _) lI.h ?_
 unfold lI jB
 dsimp only
 simp(disch:=try exact jz) only[go_sem,z3,hL.rk.kn,hL.V4]
 refine aC.st (Fr σ) (fr) λhF=>?_
 have hnp:dH e.rk<=256^uK:=az jb he.sz
 refine(apw hF.wf e.rk rv (hL.rk.fr hW hF) m he.rk.len he.rk.st hm.rk.cum).mono ?_
 rintro _ σ2 ⟨rfl,hf2⟩
 have hF2:=hF.trans hf2
 have hl2:σ.aj+1+1+1<=σ2.aj:=hf2.le
 have hx0:σ2.h σ.aj=some ⟨[.int .i64 (.ofNat n),rv,pv,.bool (rn t),.str (rs t),.str (rd t)],none⟩:=hf2.get hF.wf ((au _ _ _ _ jb).trans ((au _ _ _ _ jb).trans (aA _ _ _)))
 have hx1:σ2.h (σ.aj+1)=some ⟨[.bool (rn m),.str (rs m),.str (rd m)],none⟩:=hf2.get hF.wf ((au _ _ _ _ jb).trans (aA _ _ _))
 have hx2:σ2.h (σ.aj+1+1)=some ⟨[.bool (rn 0),.str (rs 0),.str (rd 0)],none⟩:=hf2.get hF.wf (aA _ _ _)
 unfold Iz
 cases hg0:mG e.rk m with
 |none=>
  simp(disch:=try exact jz) only[go_sem,z3,ak hx2,aJ hx2,hx2]
  exact fr
 |some g0=>
  have hsg:=hS.rk _ hg0
  simp(disch:=try exact jz) only[go_sem,z3,ak hx0,ak hx1,hL.rk.kn,hL.V4]
  refine aC.st (Fr σ2) (by have hW2:=hf2.wf;exact fr) λhF3=>?_
  refine(LK hF3.wf t e (hL.fr hW (hF2.trans hF3)) m hD he.hn he.rk hm.rk hm.hm hnp he.rk0).mono ?_
  rintro _ σ3 ⟨⟨b,rfl,h2,hb⟩,hZ,hf3⟩
  have hg6:σ3.h σ2.aj=some ⟨[.bool (rn g0),.str (rs g0),.str (rd g0)],none⟩:=hf3.get hF3.wf (aA _ _ _)
  have ni:=hF3.trans hf3
  have hx0:=ni.get hf2.wf hx0
  have hx1:=ni.get hf2.wf hx1
  have hx2:=ni.get hf2.wf hx2
  have hb:σ2.aj+1<=b:=hb
  have hl3:σ2.aj+1<=σ3.aj:=hf3.le
  simp(disch:=try exact jz) only[go_sem,z3,ak hx0,ak hx1,hL.rk.kn,hL.V4]
  refine(ac2 hf3.wf t e (hL.fr hW (hF2.trans ni)) m hD he.hn he.rk hR.rk hm.hm hnp).mono ?_
  rintro _ σ6 ⟨⟨b6,rfl,h6,hb6⟩,hZ6,gJ⟩
  have hx0:=gJ.get hf3.wf hx0
  have hx2:=gJ.get hf3.wf hx2
  have hg6:=gJ.get hf3.wf hg6
  have h2:=gJ.get hf3.wf h2
  have jF:=hF2.trans (ni.trans gJ)
  have hbl:=gJ.wf.lt h2
  obtain⟨hrk,Gm,Gl,hG,hP⟩:=hL
  have hlen:=hG.len
  simp(disch:=try exact jz) only[go_sem,z3,ak hx0,hG.kn,hlen]
  refine aF (λq tm σ'=>∃j g,q=e.ps.length-j/\j<=e.ps.length/\Tr.ah tm 4=.c (.ptr (σ.aj+1+1) 0)/\Tr.ah tm 6=.c (.ptr σ2.aj 0)/\Tr.ah tm 8=.c (.sl b 0 n (.ex n))/\Tr.ah tm 9=.c (.sl b6 0 n (.ex n))/\Tr.ah tm 34=.c pv/\Tr.ah tm 35=.c (.int .i64 (.ofNat e.ps.length))/\Tr.ah tm 36=.c (.int .i64 (.ofNat j))
   /\σ'.h σ2.aj=some ⟨[.bool (rn g),.str (rs g),.str (rd g)],none⟩/\Sz g/\DC e m e.ps g0=DC e m (e.ps.drop j) g/\σ'.h b=some ⟨cZ n λi=>y7 e m i,none⟩/\σ'.h b6=some ⟨cZ n λi=>rts e m i,none⟩/\σ'.h (σ.aj+1+1)=some ⟨[.bool (rn 0),.str (rs 0),.str (rd 0)],none⟩/\Fr σ σ') e.ps.length ?_ ?_
  .refine⟨0,g0,jb,jb,?_⟩
   simp(disch:=try exact jz) only[go_sem,z3,am,gp]
   exact⟨hg6,hsg,h2,h6,hx2,jF⟩
  .rintro q tm σ' ⟨j,g,rfl,hj,t4,t6,t8,t9,t34,t35,t36,hgb,hgz,hst,hg,atg,II,hf'⟩
   simp(disch:=try exact jz) only[go_sem,z3,t4,t6,t8,t9,t34,t35,t36]
   refine aH (λhlt=>?_) (λhlt=>?_)
   .obtain⟨b2,o2,c2,rfl,hld⟩:=hG.pos jb
    have hpj:=gI hlt
    have zY:=hP j hlt
    have hld:=hf'.ld hW (hld j hlt)
    have hb2:=hf'.wf.bV hld
    have hpm:=he.pm _ hpj
    have hpk:=he.pk _ hpj
    have hmp:=hm.ps _ hpj
    have hrp:=hR.ps _ hpj
    have hsp:=hS.ps _ hpj
    have hsz:=he.sz
    have hpl:=he.pl
    rw[LH hlt,DC]at hst
    generalize ix e.ps j=p at*
    simp(disch:=try exact jz) only[go_sem,z3,t4,t6,t8,t9,t34,t35,t36,hld,zY.1.kn,zY.2.kn]
    have h1m:=show p.1.length+1<=1000001 by omega
    have hA:=az (cA (dH e.rk) h1m) (az (Nat.le_add_right _ _) hsz)
    refine aC.st (Fr σ') (by have hW':=hf'.wf;exact fr) λsu=>?_
    refine(IE su.wf p.1 (Gm j) (Gl j) (.sl b6 0 n (.ex n)) (λi=>rts e m i) (zY.1.fr hW (hf'.trans su)) (AZ (su.get hf'.wf atg) rfl) hpm.2 hpm.1 hD (λi _=>hZ6 i) hA).mono ?_
    rintro _ σ4 ⟨rfl,nC⟩
    have hq9:σ4.h σ'.aj=some ⟨[Gm j,Gl j],none⟩:=nC.get su.wf (aA _ _ _)
    have hl7:σ'.aj+1<=σ4.aj:=nC.le
    have LM:=su.trans nC
    have er:(aI p.1 λi=>rts e m i)=rY e m p:=rfl
    rw[er]
    simp(disch:=try exact jz) only[go_sem,z3,t4,t6,t8,t9,t34,t35,t36,ak hq9,zY.1.kn,zY.2.kn]
    refine aC.st (Fr σ4) (by have hW':=nC.wf;exact fr) λDT=>?_
    refine(IE DT.wf p.1 (Gm j) (Gl j) (.sl b 0 n (.ex n)) (λi=>y7 e m i) (zY.1.fr hW (hf'.trans (LM.trans DT))) (AZ ((LM.trans DT).get hf'.wf hg) rfl) hpm.2 hpm.1 hD (λi _=>hZ i) hA).mono ?_
    rintro _ σ5 ⟨rfl,YK⟩
    have er2:(aI p.1 λi=>y7 e m i)=kK e m p:=rfl
    rw[er2]
    have hl9:σ4.aj+1+1<=σ5.aj:=YK.le
    have hq10:σ5.h σ4.aj=some ⟨[.bool (rn (rY e m p)),.str (rs (rY e m p)),.str (rd (rY e m p))],none⟩:=YK.get DT.wf ((au _ _ _ _ jb).trans (aA _ _ _))
    have hq11:σ5.h (σ4.aj+1)=some ⟨[.bool (rn 0),.str (rs 0),.str (rd 0)],none⟩:=YK.get DT.wf (aA _ _ _)
    have awH:=LM.trans (DT.trans YK)
    have ayX:σ5.h σ'.aj=some ⟨[Gm j,Gl j],none⟩:=(DT.trans YK).get nC.wf hq9
    simp(disch:=try exact jz) only[go_sem,z3,ak ayX,hq11,zY.1.kn,zY.2.kn]
    refine(apw YK.wf p.2 (Gl j) (zY.2.fr hW (hf'.trans awH)) (kK e m p) hpk.1.len hpk.1.st hmp.1.cum).mono ?_
    rintro _ σ9 ⟨rfl,akj⟩
    have akk:=awH.trans akj
    have aAe:=akj.le
    have hqr:=akj.get YK.wf hq10
    have hqg:=akj.get YK.wf hq11
    have akl:=akk.get hf'.wf hgb
    have hg9:=akk.get hf'.wf hg
    have ath:=akk.get hf'.wf atg
    have hx29:=akk.get hf'.wf II
    have hlo:=hf'.wf.lt hgb
    have hlg:=hf'.wf.lt hg
    have aAf:=hf'.wf.lt atg
    have hlx:=hf'.wf.lt II
    have hF0:=hf'.trans akk
    have awz:=Fr.refl akj.wf
    cases hgp:mG p.2 (kK e m p)with
    |none=>
     rw[hgp]at hst
     simp(disch:=try exact jz) only[go_sem,z3,t4,t6,t8,t9,t34,t35,t36,hqg,aJ hqg]
     refine⟨e.ps.length-(j+1),jb,j+1,g,rfl,jb,rfl,akl,hgz,hst,hg9,ath,hx29,fr⟩
    |some dd=>
     obtain⟨z1,z2⟩:=hsp _ hgp
     have z3':=hrp.2
     rw[hgp]at hst
     dsimp only at hst
     by_cases hr0:0<rY e m p
     .rw[ab hr0]at hst
      have hdiv:Ig dd (rY e m p)=dd/rY e m p:=by unfold Ig;rw[ae kd]
      have z4:=aoi hgz z2
      simp(disch:=try exact jz) only[go_sem,z3,t4,t6,t8,t9,t34,t35,t36,hqg,aJ hqg,ak hqr,hqr,hr0,hdiv,ak akl,akl,aJ akl]
      refine⟨e.ps.length-(j+1),jb,j+1,jv g (dd/rY e m p),rfl,jb,rfl,rfl,z4,hst,hg9,ath,hx29,fr⟩
     .rw[ae hr0]at hst
      simp(disch:=try exact jz) only[go_sem,z3,t4,t6,t8,t9,t34,t35,t36,hqg,aJ hqg,ak hqr,hqr,hr0]
      refine⟨e.ps.length-(j+1),jb,j+1,g,rfl,jb,rfl,akl,hgz,hst,hg9,ath,hx29,fr⟩
   .have:j=e.ps.length:=jb
    subst this
    rw[List.drop_length]at hst
    have hst:DC e m e.ps g0=g:=hst
    have hlo:=hf'.wf.lt hgb
    have jM:=Fr.refl hf'.wf
    rw[hst]
    simp(disch:=try exact jz) only[go_sem,z3,t4,t6,t8,t9,t34,t35,t36,ak hgb,II,aJ II]
    first|exact fr|exact⟨rfl,fr⟩
def SN(n:Nat):decide (Int.ofNat n≠Int.ofNat n)=false:=ap kc
def aoj{σ:St}(hW:WF σ){n:Nat}(hn:n<=1000000){f g:Nat->Rat}{a b:B}(h1:HL σ.h 3 a n λc=>fE (f c))(h2:HL σ.h 3 b n λc=>fE (g c)):
  aC EN 153 [.c a,.c b] σ λr σ'=>(∃d:Bool,r=.c (.bool d)/\(d=true↔∀i,i<n->f i=g i))/\Fr σ σ':=by
 refine aN (iK.o _ _) iK.h ?_
 unfold iK
 dsimp only
 have hla:=h1.len
 have hlb:=h2.len
 have hFr:=Fr.refl hW
 simp(disch:=try exact jz) only[go_sem,z3,hla,hlb,SN]
 refine aF (λx tm σ'=>∃j,x=n-j/\j<=n/\Tr.ah tm 0=.c a/\Tr.ah tm 1=.c b/\Tr.ah tm 12=.c (.int .i64 (.ofNat n))/\Tr.ah tm 13=.c (.int .i64 (.ofNat j))/\(∀i,i<j->f i=g i)/\Fr σ σ') n ?_ ?_
 .refine⟨0,jb,jb,?_⟩
  simp(disch:=try exact jz) only[go_sem,z3,am]
  exact⟨λi hi=>absurd hi jb,hFr⟩
 .rintro x tm σ' ⟨j,rfl,hj,t0,t1,t12,t13,he,hF⟩
  simp(disch:=try exact jz) only[go_sem,z3,t0,t1,t12,t13,aG]
  refine aH (λhlt=>?_) (λhlt=>?_)
  .obtain⟨b5,o5,c5,rfl,bF⟩:=h1.pos jb
   obtain⟨b6,o6,c6,rfl,bZ⟩:=h2.pos jb
   have bF:ld σ'.h b5 (o5+j*3) 3 true=some (.agg [.bool (rn (f j)),.str (rs (f j)),.str (rd (f j))]):=hF.ld hW (bF j hlt)
   have bZ:ld σ'.h b6 (o6+j*3) 3 true=some (.agg [.bool (rn (g j)),.str (rs (g j)),.str (rd (g j))]):=hF.ld hW (bZ j hlt)
   have jM:=Fr.refl hF.wf
   by_cases hfg:f j=g j
   .have hd:decide (f j=g j)=true:=bh hfg
    simp(disch:=try exact jz) only[go_sem,z3,t0,t1,t12,t13,bF,bZ,hd,hla,hlb]
    exact⟨n-(j+1),jb,j+1,rfl,jb,rfl,λi hi=>by rcases et.mp hi with h|rfl;exact he i h;exact hfg,hF⟩
   .have hd:decide (f j=g j)=false:=ap hfg
    simp(disch:=try exact jz) only[go_sem,z3,t0,t1,t12,t13,bF,bZ,hd,hla,hlb]
    exact⟨⟨_,rfl,⟨λh=>(by cases h),λh=>absurd (h j hlt) hfg⟩⟩,hF⟩
  .have:j=n:=jb
   subst this
   simp(disch:=try exact jz) only[go_sem,z3,t0,t1,hla,hlb]
   exact⟨⟨_,rfl,⟨λ_=>he,λ_=>rfl⟩⟩,hF⟩
def ati{e:fA}{m g:Rat}(hS:SOk e m)(h:Iz e m=some g):Sz g:=by
 unfold Iz at h;cases hg:mG e.rk m with
 |none=>rw[hg]at h;cases h
 |some g0=>
  rw[hg]at h
  cases h
  rcases AU e m e.ps g0 with h|⟨p,hp,d,h1,h2,h3⟩
  .rw[h];exact hS.rk _ hg
  .rw[h3];exact(hS.ps p hp d h1).2
def atj:Option Rat->V
 |some g=>.aW (.agg [.bool (rn g),.str (rs g),.str (rd g)]) (.aW (.c (.bool true)) .tnil)
 |none=>.aW (.agg [.bool (rn 0),.str (rs 0),.str (rd 0)]) (.aW (.c (.bool false)) .tnil)
def atl{σ:St}(hW:WF σ){n:Nat}{rv pv:B}(t:Rat)(e:fA)(hL:JG σ.h rv pv e)(x:Rat)(hN:Ak e)(h0:0<=x)(S:Rat->Prop)(hS0:S x)
  (hS:∀m,S m->∃D,BJ D/\EOk D n e/\MOk D e m/\ROk D e m/\SOk e m) (hSt:∀m g,S m->Iz e m=some g->S (m+g)):
  aC EN 116 [.agg (jB n rv pv t),.agg [.bool (rn x),.str (rs x),.str (rd x)]] σ λr σ'=>(∃o,V3 e n x x o/\r=atj o)/\Fr σ σ':=by
 refine aN (lH.o _ _) lH.h ?_
 unfold lH jB
 dsimp only
 simp(disch:=try exact jz) only[go_sem,z3,hL.rk.kn,hL.V4]
 refine aC.st (Fr σ) (fr) λhF=>?_
 obtain⟨D,hD,he,q1,q2,-⟩:=hS x hS0
 refine(OI hF.wf t e (hL.fr hW hF) x hD he q1 q2).mono ?_
 rintro _ σ1 ⟨⟨b1,c1,o1,rfl,hb1,aAg,ayY,hlo1,hhi1⟩,hf1⟩
 have hF1:=hF.trans hf1
 have hl1:σ.aj+1+1+1<=σ1.aj:=hf1.le
 have hx0:σ1.h σ.aj=some ⟨[.int .i64 (.ofNat n),rv,pv,.bool (rn t),.str (rs t),.str (rd t)],none⟩:=hf1.get hF.wf ((au _ _ _ _ jb).trans ((au _ _ _ _ jb).trans (aA _ _ _)))
 have hx1:σ1.h (σ.aj+1)=some ⟨[.bool (rn x),.str (rs x),.str (rd x)],none⟩:=hf1.get hF.wf ((au _ _ _ _ jb).trans (aA _ _ _))
 have hx2:σ1.h (σ.aj+1+1)=some ⟨[.bool (rn 0),.str (rs 0),.str (rd 0)],none⟩:=hf1.get hF.wf (aA _ _ _)
 simp(disch:=try exact jz) only[go_sem,z3,ak hx0,ak hx1,hL.rk.kn,hL.V4]
 have abt:=hf1.wf.lt hb1
 have hlo1:σ.aj+1+1+1<=b1:=hlo1
 refine aF (λq tm σ'=>∃m,q=opn e m/\S m/\0<=m/\(∀o,V3 e n x m o->V3 e n x x o)/\Tr.ah tm 2=.c (.ptr σ.aj 0)/\Tr.ah tm 3=.c (.ptr (σ.aj+1) 0)/\Tr.ah tm 4=.c (.ptr (σ.aj+1+1) 0)/\Tr.ah tm 6=.c (.sl b1 0 n c1)/\Tr.ah tm 7=.c (.ptr σ1.aj 0)
  /\σ'.h σ.aj=some ⟨[.int .i64 (.ofNat n),rv,pv,.bool (rn t),.str (rs t),.str (rd t)],none⟩/\σ'.h (σ.aj+1)=some ⟨[.bool (rn m),.str (rs m),.str (rd m)],none⟩/\σ'.h (σ.aj+1+1)=some ⟨[.bool (rn 0),.str (rs 0),.str (rd 0)],none⟩
  /\σ'.h σ1.aj=some ⟨[.bool (rn (y8 e x)),.str (rs (y8 e x)),.str (rd (y8 e x))],none⟩/\σ'.h b1=some ⟨cZ n (xQ e x),o1⟩/\Fr σ σ') (opn e x) ?_ ?_
 .refine⟨x,rfl,hS0,h0,λo h=>h,?_⟩
  simp(disch:=try exact jz) only[go_sem,z3,am,hx0,hx1,hx2,hb1]
  exact fr
 .rintro q tm σ' ⟨m,rfl,hSm,hm0,hNx,t2,t3,t4,t6,t7,hx0,hx1,hx2,hr1,hb1,hf'⟩
  obtain⟨Dm,hDm,hem,q1,q2,q3⟩:=hS m hSm
  have hl':=hf'.le
  have hlx:=hf'.wf.lt hx2
  have hlr:=hf'.wf.lt hr1
  have hlb:=hf'.wf.lt hb1
  simp(disch:=try exact jz) only[go_sem,z3,t2,t3,t4,t6,t7,ak hx0,ak hx1,hL.rk.kn,hL.V4]
  refine(atf hf'.wf t e (hL.fr hW hf') m hDm hem q1 q2 q3).mono ?_
  rintro _ σ2 ⟨rfl,hf2⟩
  have hF2:=hf'.trans hf2
  have hx0:=hf2.get hf'.wf hx0
  have hx1:=hf2.get hf'.wf hx1
  have hx2:=hf2.get hf'.wf hx2
  have hr1:=hf2.get hf'.wf hr1
  have hb1:=hf2.get hf'.wf hb1
  have hl2:=hf2.le
  cases hst:Iz e m with
  |none=>
   simp(disch:=try exact jz) only[go_sem,z3,t2,t3,t4,t6,t7,ak hx2,aJ hx2,hx2]
   exact⟨⟨none,hNx _ (.no hst),rfl⟩,fr⟩
  |some g=>
   have hgz:=ati q3 hst
   have hmz:=q1.hm
   have hg0:=Em hst
   have hSg:=hSt m g hSm hst
   obtain⟨Dg,hDg,heg,r1,r2,-⟩:=hS _ hSg
   have hop:=AV hN hm0 hst
   simp(disch:=try exact jz) only[go_sem,z3,t2,t3,t4,t6,t7,ak hx0,ak hx1,aJ hx1,hx1,hL.rk.kn,hL.V4]
   refine aC.st (Fr σ) (fr) λhF3=>?_
   refine(OI hF3.wf t e (hL.fr hW hF3) (m+g) hDg heg r1 r2).mono ?_
   rintro _ σ3 ⟨⟨b3,c3,o3,rfl,hb3,aAh,ayZ,hlo3,hhi3⟩,hf3⟩
   have hl3:σ2.aj+1<=σ3.aj:=hf3.le
   have hlo3:σ2.aj+1<=b3:=hlo3
   have ni:=hF3.trans hf3
   have hx0:=hf3.get hF3.wf ((au _ _ _ _ jb).trans ((au _ _ _ _ jb).trans ((au _ _ _ _ jb).trans hx0)))
   have hx1:σ3.h (σ.aj+1)=some ⟨[.bool (rn (m+g)),.str (rs (m+g)),.str (rd (m+g))],none⟩:=hf3.get hF3.wf (aA _ _ _)
   have hx2:=hf3.get hF3.wf ((au _ _ _ _ jb).trans ((au _ _ _ _ jb).trans ((au _ _ _ _ jb).trans hx2)))
   have hr1:=hf3.get hF3.wf ((au _ _ _ _ jb).trans ((au _ _ _ _ jb).trans ((au _ _ _ _ jb).trans hr1)))
   have hb1:=hf3.get hF3.wf ((au _ _ _ _ jb).trans ((au _ _ _ _ jb).trans ((au _ _ _ _ jb).trans hb1)))
   by_cases hrr:y8 e (m+g)=y8 e x
   .have hd:decide (y8 e (m+g)=y8 e x)=true:=bh hrr
    simp(disch:=try exact jz) only[go_sem,z3,t2,t3,t4,t6,t7,hd,ak hr1]
    refine aC.st (Fr σ3) (by have hW3:=hf3.wf;exact fr) λiw=>?_
    have anW:=iw.get hf3.wf hb3
    have hb1':=iw.get hf3.wf hb1
    refine(aoj iw.wf he.hn (AZ anW ayZ) (AZ hb1' ayY)).mono ?_
    rintro _ σ4 ⟨⟨d,rfl,hd4⟩,hf4⟩
    have jF:=iw.trans hf4
    have hx0:=jF.get hf3.wf hx0
    have hx1:=jF.get hf3.wf hx1
    have hx2:=jF.get hf3.wf hx2
    have hr1:=jF.get hf3.wf hr1
    have hb1:=jF.get hf3.wf hb1
    have su:=ni.trans jF
    have hl7:=su.le
    have aAi:=su.wf.lt hx2
    have hW4:=hf4.wf
    cases d with
    |true=>
     have hsm:Rl e n x (m+g):=⟨hd4.mp rfl,hrr⟩
     simp(disch:=try exact jz) only[go_sem,z3,t2,t3,t4,t6,t7]
     exact⟨opn e (m+g),hop,m+g,rfl,hSg,by grind,λo ho=>hNx o (.go hst hsm ho),hx0,hx1,hx2,hr1,hb1,su⟩
    |false=>
     have hsm:¬Rl e n x (m+g):=λh=>by have:=hd4.mpr h.1;cases this
     simp(disch:=try exact jz) only[go_sem,z3,t2,t3,t4,t6,t7,ak hx1,hx1,aJ hx2,hx2]
     exact⟨⟨_,hNx _ (.stop hst hsm),rfl⟩,fr⟩
   .have hd:decide (y8 e (m+g)=y8 e x)=false:=ap hrr
    simp(disch:=try exact jz) only[go_sem,z3,t2,t3,t4,t6,t7,hd,ak hr1,ak hx1,hx1,aJ hx2,hx2]
    have hsm:¬Rl e n x (m+g):=λh=>hrr h.2
    exact⟨⟨_,hNx _ (.stop hst hsm),rfl⟩,by have hW3:=hf3.wf;exact fr⟩
end Go.Proofs.Xe
