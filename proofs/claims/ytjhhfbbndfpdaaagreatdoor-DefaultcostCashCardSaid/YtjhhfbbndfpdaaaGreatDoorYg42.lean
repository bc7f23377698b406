import Derived.Test.YtjhhfbbndfpdaaaGreatDoorYg41
set_option linter.all false
set_option maxRecDepth 100000
set_option maxHeartbeats 8000000
attribute [-go_sem] Go.Proofs.Xe.ayo Go.Proofs.Xe.ayp Go.Proofs.Xe.ayq
namespace Go.Proofs.Ins
def Gp(i r:Nat):Nat:=if r<i then r else r+1
def sg1(k:Nat):Rat:=if k%2=0 then 1 else-1
def jT:Nat->(Nat->Nat->Rat)->Rat
 |0,_=>1
 |k+1,A=>aB (k+1) λi=>sg1 (i+k)*A k i*jT k λc r=>A c (Gp i r)
def iQ(A:Nat->Nat->Rat)(a:Nat)(u:Nat->Rat)(c r:Nat):Rat:=if c=a then u r else A c r
def ac7{i r k:Nat}(hi:i<k+1)(hr:r<k):Gp i r<k+1:=by grind[Gp]
theorem vF:∀(k:Nat) (A B:Nat->Nat->Rat),(∀c r,c<k->r<k->A c r=B c r)->jT k A=jT k B
 |0,_,_,_=>rfl
 |k+1,A,B,h=>by unfold jT;refine aP λi hi=>?_;rw[h k i jb hi,vF k (λc r=>A c (Gp i r)) (λc r=>B c (Gp i r)) λc r hc hr=>h c _ jb (ac7 hi hr)]
def CP:∀(k:Nat) (A:Nat->Nat->Rat) (a:Nat) (u w:Nat->Rat) (s:Rat),a<k->jT k (iQ A a λr=>u r+s*w r)=jT k (iQ A a u)+s*jT k (iQ A a w)
 |0,_,_,_,_,_,h=>jb
 |k+1,A,a,u,w,s,ha=>by
  unfold jT;rw[<-gX,<-dH];refine aP λi hi=>?_;by_cases e:a=k
  .subst e;have h:∀u',jT a (λc r=>iQ A a u' c (Gp i r))=jT a λc r=>A c (Gp i r):=λu'=>vF a _ _ λc r hc hr=>by unfold iQ;rw[ae jb]
   rw[h,h,h];unfold iQ;rw[ab rfl,ab rfl,ab rfl];grind
  .have h:∀u',(λc r=>iQ A a u' c (Gp i r))=iQ (λc r=>A c (Gp i r)) a λr=>u' (Gp i r):=λu'=>by funext c r;unfold iQ;split<;>rfl
   have h2:∀u',iQ A a u' k i=A k i:=λu'=>by unfold iQ;rw[ae jb]
   rw[h,h,h,h2,h2,h2];have:=CP k (λc r=>A c (Gp i r)) a (λr=>u (Gp i r)) (λr=>w (Gp i r)) s jb;rw[this];grind
theorem Vw(A:Nat->Nat->Rat)(a:Nat):iQ A a (A a)=A:=by grind[iQ]
def amj{k:Nat}(halt:∀(A:Nat->Nat->Rat) (a b:Nat),a<b->b<k->(∀r,r<k->A a r=A b r)->jT k A=0)(A:Nat->Nat->Rat){a b:Nat}(hab:a<b)(hb:b<k):
  jT k (iQ (iQ A a (A b)) b (A a))=-jT k A:=by
 have hne:a≠b:=jb
 have hcomm:∀u v,iQ (iQ A a u) b v=iQ (iQ A b v) a u:=λu v=>by grind[iQ]
 have h0:=halt (iQ (iQ A a λr=>A a r+1*A b r) b λr=>A a r+1*A b r) a b hab hb λr _=>by grind[iQ]
 have e:∀u v,(∀r,r<k->u r=v r)->jT k (iQ (iQ A a u) b v)=0:=λu v h=>halt _ a b hab hb λr hr=>by grind[iQ]
 rw[CP k _ b (A a) (A b) 1 hb]at h0
 rw[hcomm _ (A a),hcomm _ (A b),CP k _ a (A a) (A b) 1 jb,CP k _ a (A a) (A b) 1 jb]at h0
 grind[Vw]
def aqv{n p:Nat}(hp:p<n+1)(f:Nat->Rat):aB n (λi=>f (Gp p i))=aB (n+1) λq=>if q=p then 0 else f q:=by
 induction n generalizing p with
 |zero=>grind[aB]
 |succ n ih=>
  rw[aB,aB]
  by_cases e:p=n+1
  .grind[aB,aP,Gp]
  .rw[ih jb,ae (λh=>e h.symm)]
   grind[Gp]
theorem aqw(a b:Nat):sg1 (a+b)=sg1 a*sg1 b:=by grind[sg1]
def NH(p q:Nat):Nat:=if q<p then q else q-1
def aqx{p i:Nat}:NH p (Gp p i)=i:=by grind[Gp,NH]
theorem aqy{p q:Nat}(h:p≠q)(r:Nat):Gp p (Gp (NH p q) r)=Gp q (Gp (NH q p) r):=by grind[NH,Gp]
theorem avT{p q:Nat}(h:p≠q):sg1 p*sg1 (NH p q)=-(sg1 q*sg1 (NH q p)):=by grind[NH,sg1]
theorem aff(m:Nat)(A:Nat->Nat->Rat)(h:∀r,r<m+2->A m r=A (m+1) r):jT (m+2) A=0:=by
 obtain⟨S,hS⟩:∃S:Nat->Nat->Rat,S=λp q=>if q=p then 0 else sg1 (p+(m+1))*A m p*(sg1 (NH p q+m)*A m q*jT m λc r=>A c (Gp p (Gp (NH p q) r))):=⟨_,rfl⟩
 have h1:jT (m+2) A=aB (m+2) λp=>aB (m+2) λq=>S p q:=by rw[jT];refine aP λp hp=>?_;rw[jT,<-h p hp,<-gX];have e:=aqv (n:=m+1) hp λq=>sg1 (p+(m+1))*A m p*(sg1 (NH p q+m)*A m q*jT m λc r=>A c (Gp p (Gp (NH p q) r)));rw[hS];dsimp only;rw[<-e];exact aP λi _=>by rw[aqx]
 have h2:∀p q,S p q=-S q p:=λp q=>by grind[aqy,avT,aqw]
 have h3:aB (m+2) (λp=>aB (m+2) λq=>S p q)=-aB (m+2) λp=>aB (m+2) λq=>S p q:=by
  have a:aB (m+2) (λp=>aB (m+2) λq=>S p q)=aB (m+2) λp=>(-1)*aB (m+2) λq=>S q p:=aP λp _=>by rw[<-gX];grind
  rw[gX,<-Bl (m+2) (m+2) λp q=>S p q]at a;grind
 grind
theorem JZ:∀(k:Nat) (A:Nat->Nat->Rat) (a b:Nat),a<b->b<k->(∀r,r<k->A a r=A b r)->jT k A=0
 |0,_,_,_,_,h,_=>jb
 |k+1,A,a,b,hab,hb,h=>by
  by_cases e:b=k
  .subst e;obtain⟨m,rfl⟩:∃m,b=m+1:=⟨b-1,jb⟩
   by_cases e2:a=m
   .grind[aff]
   ·--swap columns a and m
    have hs:=aff m (iQ (iQ A a (A m)) m (A a)) λr hr=>by grind[iQ]
    have:jT (m+2) (iQ (iQ A a (A m)) m (A a))=-jT (m+2) A:=by
     unfold jT;have e3:∀i,jT (m+1) (λc r=>iQ (iQ A a (A m)) m (A a) c (Gp i r))=-jT (m+1) λc r=>A c (Gp i r):=λi=>by rw[<-amj (k:=m+1) (JZ (m+1)) (λc r=>A c (Gp i r)) (a:=a) (b:=m) jb jb];refine vF _ _ _ λc r _ _=>?_;unfold iQ;split<;>(try split)<;>rfl
     have e4:∀i,iQ (iQ A a (A m)) m (A a) (m+1) i=A (m+1) i:=λi=>by unfold iQ;rw[ae jb,ae jb]
     rw[show∀x:Rat,-x=(-1)*x by intro x;grind,<-gX];exact aP λi _=>by rw[e3,e4];grind
    rw[hs]at this;grind
  .unfold jT;exact bK λi hi=>by rw[JZ k (λc r=>A c (Gp i r)) a b hab jb λr hr=>h _ (ac7 hi hr)];grind
def amk{k a:Nat}(A:Nat->Nat->Rat)(ha:a<k):jT k (iQ A a λ_=>0)=0:=by have:=CP k A a (λ_=>0) (λ_=>0) 1 ha;grind
def SE{k a:Nat}(A:Nat->Nat->Rat)(ha:a<k)(x:Nat->Rat)(B:Nat->Nat->Rat):∀m,jT k (iQ A a λr=>aB m λl=>x l*B l r)=aB m λl=>x l*jT k (iQ A a (B l))
 |0=>amk A ha
 |m+1=>by have:(λr=>aB (m+1) λl=>x l*B l r)=λr=>aB m (λl=>x l*B l r)+x m*B m r:=rfl;rw[this,CP k A a _ _ _ ha,SE A ha x B m];rfl
def avU{k i:Nat}(A:Nat->Nat->Rat)(hi:i<k)(x w:Nat->Rat)(h:∀r,r<k->w r=aB k λl=>A l r*x l):jT k (iQ A i w)=x i*jT k A:=by
 have e:jT k (iQ A i w)=jT k (iQ A i λr=>aB k λl=>x l*A l r):=vF k _ _ λc r _ hr=>by grind[iQ]
 rw[e,SE A hi];rw[jQ hi λl hl hne=>?_,Vw];have:jT k (iQ A i (A l))=0:=by
  rcases Nat.lt_or_gt_of_ne hne with hlt|hlt
  .grind[JZ,iQ]
  grind[JZ,iQ]
 grind
def aml{k:Nat}(A:Nat->Nat->Rat)(x:Nat->Rat)(h:∀r,r<k->A k r=aB k λl=>A l r*x l):jT (k+1) A=(A k k-aB k λl=>A l k*x l)*jT k A:=by
 obtain⟨s,hs⟩:∃s,s=A k k-aB k λl=>A l k*x l:=⟨_,rfl⟩
 have e:jT (k+1) A=jT (k+1) (iQ A k λr=>aB k (λl=>x l*A l r)+s*(if r=k then 1 else 0)):=vF _ _ _ λc r hc hr=>by grind[iQ]
 rw[e,CP _ _ _ _ _ _ jb,SE A jb,bK λl hl=>?_,<-hs]
 .have:jT (k+1) (iQ A k λr=>if r=k then 1 else 0)=jT k A:=by
   rw[show jT (k+1) (iQ A k λr=>if r=k then 1 else 0)=aB (k+1) λi=>sg1 (i+k)*iQ A k (λr=>if r=k then 1 else 0) k i*jT k λc r=>iQ A k (λr=>if r=k then 1 else 0) c (Gp i r)from rfl];rw[jQ (k:=k) jb λi _ hne=>?_]
   .grind[Go.Proofs.Ins.sg1,Go.Proofs.Ins.iQ,Go.Proofs.Ins.vF,Go.Proofs.Ins.Gp]
   grind[iQ]
  grind
 grind[JZ,iQ]
def G5(q:Rat):Prop:=∃z:Int,q=(z:Rat)
theorem G5.add{a b:Rat}(ha:G5 a)(hb:G5 b):G5 (a+b):=by obtain⟨x,rfl⟩:=ha;obtain⟨y,rfl⟩:=hb;exact⟨x+y,by simp⟩
def G5.mul{a b:Rat}(ha:G5 a)(hb:G5 b):G5 (a*b):=by obtain⟨x,rfl⟩:=ha;obtain⟨y,rfl⟩:=hb;exact⟨x*y,by simp⟩
def G5.neg{a:Rat}(ha:G5 a):G5 (-a):=by obtain⟨x,rfl⟩:=ha;exact⟨-x,by rfl⟩
def G5.sub{a b:Rat}(ha:G5 a)(hb:G5 b):G5 (a-b):=by rw[fR];exact ha.add hb.neg
theorem G5.sum{n:Nat}{f:Nat->Rat}(h:∀i,i<n->G5 (f i)):G5 (aB n f):=by
 induction n with
 |zero=>exact⟨0,rfl⟩
 |succ n ih=>exact(ih λi hi=>h i jb).add (h n jb)
theorem G5.sg1(k:Nat):G5 (sg1 k):=by unfold Ins.sg1;split;exact⟨1,rfl⟩;exact⟨-1,rfl⟩
def XM:∀(k:Nat) (A:Nat->Nat->Rat),(∀c r,c<k->r<k->G5 (A c r))->G5 (jT k A)
 |0,_,_=>⟨1,rfl⟩
 |k+1,A,h=>by unfold jT;exact .sum λi hi=>((G5.sg1 _).mul (h k i jb hi)).mul (XM k _ λc r hc hr=>h c _ jb (ac7 hi hr))
structure Bar(n k:Nat)(B W:Nat->Nat->Rat)(p:Rat):Prop where
 int:∀i j,i<n->j<=n->G5 (B i j)
 p0:p≠0
 pd:p=jT k λc r=>B r c
 ex:∃X:Nat->Nat->Rat,(∀r j,r<k->j<=n->B r j=aB k λl=>B r l*X l j)/\(∀l j,l<k->j<k->X l j=if l=j then 1 else 0)/\(∀l j,l<k->j<=n->W l j=p*X l j)/\∀i j,k<=i->i<n->j<=n->W i j=p*(B i j-aB k λl=>B i l*X l j)
def ahQ{n:Nat}{B:Nat->Nat->Rat}(h:∀i j,i<n->j<=n->G5 (B i j)):Bar n 0 B B 1:=
 ⟨h,jj,rfl,λ_ _=>0,λr j hr=>jb,λl j hl=>jb,λl j hl=>jb,λi j _ _ _=>by rw[aB];grind⟩
def Bar.isZ{n k:Nat}{B W:Nat->Nat->Rat}{p:Rat}(h:Bar n k B W p)(hk:k<=n):G5 p/\∀i j,i<n->j<=n->G5 (W i j):=by
 have hp:G5 p:=by rw[h.pd];exact XM k _ λc r hc hr=>h.int r c jb jb
 obtain⟨X,h1,h2,h3,h4⟩:=h.ex;have h5:∀l j,l<k->j<=n->G5 (p*X l j):=λl j hl hj=>by
  have:=avU (k:=k) (i:=l) (λc r=>B r c) hl (λl=>X l j) (λr=>B r j) λr hr=>h1 r j hr hj;rw[fX,h.pd,<-this];refine XM k _ λc r hc hr=>?_;unfold iQ;split
  .exact h.int r j jb hj
  .exact h.int r c jb jb
 refine⟨hp,λi j hi hj=>?_⟩;by_cases hik:i<k
 .grind
 .rw[h4 i j jb hi hj];have:p*(B i j-aB k λl=>B i l*X l j)=p*B i j-aB k λl=>B i l*(p*X l j):=by
   have e:aB k (λl=>B i l*(p*X l j))=p*aB k λl=>B i l*X l j:=by rw[<-gX];grind
   grind
  rw[this];exact(hp.mul (h.int i j hi hj)).sub (.sum λl hl=>(h.int i l hi jb).mul (h5 l j hl hj))
def LX(W:Nat->Nat->Rat)(k:Nat)(p:Rat)(i j:Nat):Rat:=if i=k then W k j else(W k k*W i j-W i k*W k j)/p
def Bar.swap{n k:Nat}{B W:Nat->Nat->Rat}{p:Rat}(h:Bar n k B W p)(hk:k<n){a:Nat}(ha:k<=a)(han:a<n):Bar n k (λi=>B (swp k a i)) (λi=>W (swp k a i)) p:=by
 obtain⟨X,h1,h2,h3,h4⟩:=h.ex;have hlo:∀i,i<k->swp k a i=i:=λi hi=>by grind[swp]
 have hhi:∀i,k<=i->i<n->k<=swp k a i/\swp k a i<n:=λi hi hin=>by grind[swp]
 refine⟨λi j hi hj=>h.int _ j (qF hk han hi) hj,h.p0,?_,X,λr j hr hj=>?_,h2,λl j hl hj=>?_,λi j hi hin hj=>?_⟩
 .rw[h.pd];exact vF k _ _ λc r _ hr=>by rw[hlo r hr]
 .rw[hlo r hr];exact h1 r j hr hj
 .rw[hlo l hl];exact h3 l j hl hj
 grind
def Bar.step{n k:Nat}{B W:Nat->Nat->Rat}{p:Rat}(h:Bar n k B W p)(hk:k<n)(h0:W k k≠0):Bar n (k+1) B (LX W k p) (W k k):=by
 obtain⟨X,h1,h2,h3,h4⟩:=h.ex;have hp0:=h.p0;obtain⟨R,hR⟩:∃R:Nat->Nat->Rat,R=λi j=>B i j-aB k λl=>B i l*X l j:=⟨_,rfl⟩
 have hRe:∀i j,R i j=B i j-aB k λl=>B i l*X l j:=λi j=>by rw[hR]
 have hW:∀i j,k<=i->i<n->j<=n->W i j=p*R i j:=λi j a b d=>by grind
 have hs:R k k≠0:=λe=>h0 kd;have hWk:=hW k k jp hk jb;obtain⟨Y,hY⟩:∃Y:Nat->Rat,∀j,Y j*R k k=R k j:=⟨λj=>R k j/R k k,λj=>dc hs⟩
 have hpd:W k k=jT (k+1) λc r=>B r c:=by rw[aml (λc r=>B r c) (λl=>X l k) λr hr=>h1 r k hr jb,<-h.pd,hWk,hRe,fX]
 have key:∀i j,aB (k+1) (λl=>B i l*(if l=k then Y j else X l j-X l k*Y j))=aB k (λl=>B i l*X l j)+R i k*Y j:=λi j=>by
  rw[aB,ab rfl];have e:aB k (λl=>B i l*(if l=k then Y j else X l j-X l k*Y j))=aB k (λl=>B i l*X l j)-aB k (λl=>B i l*X l k)*Y j:=by rw[<-rO,<-iI];exact aP λl hl=>by rw[ae jb];grind
  grind
 have hdiv:∀a:Rat,(a*p)/p=a:=λa=>by rw[Rat.div_def,Rat.mul_assoc,Rat.mul_inv_cancel _ hp0,Rat.mul_one]
 refine⟨h.int,h0,hpd,λl j=>if l=k then Y j else X l j-X l k*Y j,λr j hr hj=>?_,λl j hl hj=>?_,λl j hl hj=>?_,λi j hi hin hj=>?_⟩
 .rw[key];by_cases e:r=k
  .subst e;have:=hY j;have:=hRe r j;grind
  .have h5:=h1 r j jb hj;have h6:R r k=0:=by have:=h1 r k jb jb;rw[hRe];grind
   rw[h6];grind
 .dsimp only;by_cases e:l=k
  .rw[ab e];by_cases e2:j=k
   .rw[ab jb];have:=hY k;have e3:Y k=1:=by
     have:(Y k-1)*R k k=0:=by grind
     rcases gx.mp this with e|e
     .grind
     .exact absurd e hs
    rw[e2];exact e3
   .rw[ae jb];have h5:R k j=0:=by rw[hRe,jQ (k:=j) jb λl hl hne=>by rw[h2 l j hl jb,ae hne];grind,h2 j j jb jb,ab rfl];grind
    have:=hY j;rw[h5]at this;rcases gx.mp this with e|e
    .exact e
    .exact absurd e hs
  .rw[ae e];by_cases e2:j=k
   .subst e2;have e3:Y j=1:=by
     have:=hY j;have:(Y j-1)*R j j=0:=by grind
     rcases gx.mp this with e|e
     .grind
     .exact absurd e hs
    rw[e3,ae e];grind
   .have h5:R k j=0:=by rw[hRe,jQ (k:=j) jb λl hl hne=>by rw[h2 l j hl jb,ae hne];grind,h2 j j jb jb,ab rfl];grind
    have e4:Y j=0:=by
     have:=hY j;rw[h5]at this;rcases gx.mp this with e|e
     .exact e
     .exact absurd e hs
    rw[e4,h2 l j jb jb];grind
 .unfold LX;dsimp only;by_cases e:l=k
  .subst e;rw[ab rfl,ab rfl,hWk,hW l j jp hk hj,<-hY j];grind
  .rw[ae e,ae e,hWk,hW k j jp hk hj,h3 l j jb hj,h3 l k jb jb,<-hY j];have:p*R k k*(p*X l j)-p*X l k*(p*(Y j*R k k))=(p*R k k*(X l j-X l k*Y j))*p:=by grind
   rw[this,hdiv]
 grind[LX]
def Bar.pivot{n k:Nat}{B W:Nat->Nat->Rat}{p:Rat}(h:Bar n k B W p)(hk:k<n)(hinj:∀z:Nat->Rat,(∀i,i<n->aB n (λj=>B i j*z j)=0)->∀j,j<n->z j=0):∃i,k<=i/\i<n/\W i k≠0:=by
 refine br λhno=>?_;obtain⟨X,h1,h2,h3,h4⟩:=h.ex;have hz:∀i,i<n->aB n (λj=>B i j*(if j=k then 1 else if j<k then-X j k else 0))=0:=λi hi=>by
  have e:aB n (λj=>B i j*(if j=k then 1 else if j<k then-X j k else 0))=B i k-aB k λl=>B i l*X l k:=by
   have e1:∀m,m<=n-k-1->aB (k+1+m) (λj=>B i j*(if j=k then 1 else if j<k then-X j k else 0))=B i k-aB k λl=>B i l*X l k:=by
    intro m;induction m with
    |zero=>
     intro _
     rw[bO,aB,ab rfl]
     have:aB k (λj=>B i j*(if j=k then 1 else if j<k then-X j k else 0))=(-1)*aB k λl=>B i l*X l k:=by rw[<-gX];exact aP λj hj=>by rw[ae jb,ab hj];grind
     rw[this];grind
    |succ m ih=>
     intro hm
     rw[<-Nat.add_assoc,aB,ih jb,ae jb,ae jb];grind
   have:=e1 (n-k-1) jp;grind
  rw[e];by_cases hik:i<k
  .have:=h1 i k hik jb;grind
  .have h5:W i k=0:=br λhne=>hno ⟨i,jb,hi,hne⟩;rw[h4 i k jb hi jb]at h5;rcases gx.mp h5 with e|e
   .exact absurd e h.p0
   .exact e
 have:=hinj _ hz k hk;grind
def Bar.done{n:Nat}{B W:Nat->Nat->Rat}{p:Rat}(h:Bar n n B W p):(∀i,i<n->W i i≠0)/\∀i,i<n->aB n (λl=>B i l*(W l n/W l l))=B i n:=by
 obtain⟨X,h1,h2,h3,h4⟩:=h.ex;have hd:∀l,l<n->W l l=p:=λl hl=>by grind
 refine⟨λi hi=>by rw[hd i hi];exact h.p0,λi hi=>?_⟩;rw[h1 i n hi jp];refine aP λl hl=>?_;rw[hd l hl,h3 l n hl jp];congr 1;rw[fX,Rat.div_def,Rat.mul_assoc,Rat.mul_inv_cancel _ h.p0,Rat.mul_one]
end Go.Proofs.Ins
namespace Go.Proofs.Xe
open Go.RowKit Go.Proofs.Ins
def mQ(b:Nat)(q:Rat):Prop:=∃(z:Int) (Q:Nat),0<Q/\Q<=2^b/\z.natAbs<=2^b/\q=(z:Rat)/(Q:Rat)
def afg{b:Nat}:2^b<256^(b/8+1):=by have e:(2:Nat)^(8*(b/8+1))=(2^8)^(b/8+1):=Nat.pow_mul 2 8 _;have e2:(2:Nat)^8=256:=rfl;rw[e2]at e;rw[<-e];exact Nat.pow_lt_pow_right jj jb
theorem Ad{a b:Nat}(h:a<=b):2^a<=2^b:=bq jj h
def qG{a b x y:Nat}(h:x<=2^a)(h':y<=2^b):x*y<=2^(a+b):=by simp_all[dT,cG]
def mQ.sz{b:Nat}{q:Rat}(h:mQ b q)(hb:b<=200000000):Sz q:=by obtain⟨z,Q,h1,h2,h3,rfl⟩:=h;have a:Sm (b/8+1) (z:Rat):=Sm.int jb (cW h3 afg);have c:Sm (b/8+1) ((Q:Int):Rat):=Sm.int jb (cW jb afg);exact(a.div c (iJ h1)).mono (by unfold szK;omega)
def mQ.mono{a b:Nat}{q:Rat}(h:mQ a q)(hab:a<=b):mQ b q:=by obtain⟨z,Q,h1,h2,h3,e⟩:=h;exact⟨z,Q,h1,ar h2 (Ad hab),ar h3 (Ad hab),e⟩
def mQ.int{b:Nat}{z:Int}(h:z.natAbs<=2^b):mQ b (z:Rat):=⟨z,1,jj,gH,h,by grind⟩
def mQ.mul{a b:Nat}{p q:Rat}(h:mQ a p)(h':mQ b q):mQ (a+b) (p*q):=by obtain⟨z,Q,h1,h2,h3,rfl⟩:=h;obtain⟨y,R,k1,k2,k3,rfl⟩:=h';refine⟨z*y,Q*R,bX h1 k1,by simp_all[dT,cG],by simp_all[eV,dT,cG],?_⟩;grind
def mQ.neg{a:Nat}{p:Rat}(h:mQ a p):mQ a (-p):=by obtain⟨z,Q,h1,h2,h3,rfl⟩:=h;refine⟨-z,Q,h1,h2,jb,?_⟩;grind
def ac8{s:Int}(h:s=1\/s=-1):(s:Rat)*(s:Rat)=1:=by rw[<-cV];rcases h with rfl|rfl<;>rfl
def azS{s:Rat}(h:s*s=1):s≠0:=λe=>by grind
def XO(z:Int):∃s:Int,(s=1\/s=-1)/\((z.natAbs:Nat):Rat)=(s:Rat)*(z:Rat):=by
 have key:∀w:Int,(z.natAbs:Int)=w->((z.natAbs:Nat):Rat)=(w:Rat):=λw h=>by
  have:(((z.natAbs:Nat):Int):Rat)=(w:Rat):=by rw[h]
  exact this
 rcases Int.le_total 0 z with h0|h0
 .grind
 .refine⟨-1,.inr rfl,?_⟩;rw[key (-z) jb,Rat.intCast_neg];grind
def mQ.div{a b:Nat}{p q:Rat}(h:mQ a p)(h':mQ b q)(h0:q≠0):mQ (a+b) (p/q):=by
 obtain⟨z,Q,h1,h2,h3,rfl⟩:=h;obtain⟨y,R,k1,k2,k3,rfl⟩:=h';have hy:y≠0:=λe=>h0 (by rw[e];grind);obtain⟨s,hs,es⟩:=XO y;have hyr:(y:Rat)≠0:=λe=>hy (eJ.mp e);have hss:=ac8 hs;refine⟨s*(z*R),Q*y.natAbs,bX h1 jb,by simp_all[dT,cG],?_,?_⟩
 .have e:(s*(z*R)).natAbs=z.natAbs*R:=by grind[Int.natAbs_mul]
  simp_all[dT,cG]
 .have a1:=iJ h1;have a2:=iJ k1;rw[cV,cV,eI,es];have e2:(((R:Nat):Int):Rat)=(R:Rat):=rfl;grind
def Fg(rows m a:Nat)(A:Nat->Nat->Rat):Prop:=∃Q:Nat,0<Q/\Q<=2^a/\∀i k,i<rows->k<m->∃z:Int,A i k=(z:Rat)/(Q:Rat)/\z.natAbs<=2^a
section
variable {rows m a b r p c:Nat} {A:Nat→Nat→Rat}
def Fg.rat(h:Fg rows m a A){i k:Nat}(hi:i<rows)(hk:k<m):mQ a (A i k):=by obtain⟨Q,h1,h2,h3⟩:=h;obtain⟨z,e,hz⟩:=h3 i k hi hk;exact⟨z,Q,h1,h2,hz,e⟩
def Fg.mono(h:Fg rows m a A)(hab:a<=b):Fg rows m b A:=by obtain⟨Q,h1,h2,h3⟩:=h;refine⟨Q,h1,ar h2 (Ad hab),λi k hi hk=>?_⟩;grind[Nat.le_trans,Ad]
theorem Fg.elim(h:Fg rows m a A)(hr:r<rows)(hp:p<rows)(hc:c<m)(h0:A p c≠0):Fg rows m (2*a+1) (elim A r p c):=by
 obtain⟨Q,h1,h2,h3⟩:=h;obtain⟨P,eP,hP⟩:=h3 p c hp hc;have hP0:P≠0:=λe=>h0 (by rw[eP,e];grind);obtain⟨s,hs,es⟩:=XO P;have hPr:(P:Rat)≠0:=λe=>hP0 (eJ.mp e);have hss:=ac8 hs;have a1:=iJ h1;have e2:(2:Nat)^(2*a+1)=2^a*2^a+2^a*2^a:=by rw[de,Nat.two_mul a,dT];omega
 have hQP:Q*P.natAbs<=2^a*2^a:=cG h2 hP;have hab:∀x:Int,(s*x).natAbs=x.natAbs:=λx=>by grind
 refine⟨Q*P.natAbs,bX h1 jb,jb,λi k hi hk=>?_⟩;obtain⟨z,ez,hz⟩:=h3 p k hp hk;unfold Ins.elim;have hs0:=azS hss;by_cases e:i=r
 .rw[ab e];refine⟨s*(z*Q),?_,?_⟩
  .rw[ez,eP,cV,cV,eI,es];have e3:(((Q:Nat):Int):Rat)=(Q:Rat):=rfl;grind
  .rw[hab,eV,gL];have:=cG hz h2;omega
 .rw[ae e];obtain⟨y,ey,hy⟩:=h3 _ k (qF hr hp hi) hk;obtain⟨w,ew,hw⟩:=h3 _ c (qF hr hp hi) hc;refine⟨s*(y*P-w*z),?_,?_⟩
  .rw[ey,ew,ez,eP,cV,Rat.intCast_sub,cV,cV,eI,es];generalize (s:Rat)=s at*;generalize (P:Rat)=P at*;grind
  .rw[hab];have k1:=cG hy hP;have k2:=cG hw hz;have k3:(y*P-w*z).natAbs<=(y*P).natAbs+(w*z).natAbs:=jb;rw[eV,eV]at k3;omega
def NI(a:Nat):Nat->Nat
 |0=>a
 |c+1=>2*NI a c+1
def BJ(a:Nat){c:Nat}:∀{d:Nat},c<=d->NI a c<=NI a d
 |0,h=>by grind
 |d+1,h=>by
  rcases df c (d+1)with h2|h2
  .have:=BJ a (c:=c) (d:=d) jb;show _<=2*NI a d+1;omega
  grind
def amm(a:Nat):∀c,a<=NI a c:=λc=>BJ a (aM c)
def Vx(h:Fg rows m a A):∀{c:Nat},c<=m->Fg rows m (NI a c) (ech rows A c).1
 |0,_=>h
 |c+1,hc=>by
  have ih:=Vx h (c:=c) jb;show Fg rows m (2*NI a c+1) (Ub rows (ech rows A c).1 (ech rows A c).2 c).1;generalize (ech rows A c).1=A' at*;generalize (ech rows A c).2=P;unfold Ub;split
  .split
   .next h1 h2=>
    obtain⟨-,-,h3⟩:=F8 A' c (rows-P.length) P.length;exact ih.elim h1 h2 jb (h3 jb)
   .exact ih.mono jb
  .exact ih.mono jb
def ac9(rows:Nat)(A:Nat->Nat->Rat)(P:List Nat)(c:Nat)(q:Rat):Rat:=
 if P.length<rows then
  (if P.length+wH A c P.length (rows-P.length)<rows then(if wH A c P.length (rows-P.length)=0 then q else-q)*A (P.length+wH A c P.length (rows-P.length)) c else q)
 else q
def x9(rows:Nat)(A:Nat->Nat->Rat):Nat->Rat
 |0=>1
 |c+1=>ac9 rows (ech rows A c).1 (ech rows A c).2 c (x9 rows A c)
def ada(h:Fg rows m a A):∀{c:Nat},c<=m->mQ (NI a c) (x9 rows A c)
 |0,_=>mQ.int (z:=1) (gH)
 |c+1,hc=>by
  have ih:=ada h (c:=c) jb;have hA:=Vx h (c:=c) jb;show mQ (2*NI a c+1) (ac9 rows (ech rows A c).1 (ech rows A c).2 c (x9 rows A c));generalize (ech rows A c).1=A' at*;generalize (ech rows A c).2=P;unfold ac9;split
  .split
   .next h1 h2=>
    refine mQ.mono (mQ.mul (a:=NI a c) ?_ (hA.rat h2 jb)) jb;split
    .exact ih
    .exact ih.neg
   .exact ih.mono jb
  .exact ih.mono jb
end
def iv(s:Bool)(u:Nat):Int:=if s=true then-(u:Int)else(u:Int)
theorem AL(s:Bool)(u:Nat):(iv s u).natAbs=u:=by cases s<;>simp[iv]
def amn(s:Bool){u:Nat}:iv s u=0↔u=0:=by cases s<;>simp[iv]
def amo(s t:Bool)(u v:Nat):iv (false==(s==t)) (u*v)=iv s u*iv t v:=by cases s<;>cases t<;>simp[iv]<;>grind
def aqz{s t:Bool}(h:s≠t)(u v:Nat):iv s (u+v)=iv s u-iv t v:=by cases s<;>cases t<;>simp_all [iv]<;>omega
def afh(s:Bool){u v:Nat}(h:v<=u):iv s (u-v)=iv s u-iv s v:=by cases s<;>simp[iv]<;>omega
def aqA(s:Bool){u v:Nat}(h:¬v<=u):iv (!s) (v-u)=iv s u-iv s v:=by cases s<;>simp[iv]<;>omega
def avV{s t:Bool}{u v:Nat}{q:Int}(h:iv s u=q*iv t v)(hv:v≠0):iv (false==(s==t)) (u/v)=q:=by
 have ha:u=q.natAbs*v:=by have:=bp Int.natAbs h;rwa[AL,eV,AL]at this
 have hq:u/v=q.natAbs:=by rw[ha];exact Nat.mul_div_cancel _ jb
 rw[hq];have h2:iv (false==(s==t)) q.natAbs*(v:Int)=q*(v:Int):=by
  have e:(u:Int)=(q.natAbs:Int)*(v:Int):=by rw[ha,Int.natCast_mul]
  cases s<;>cases t<;>simp[iv]at h⊢ <;>grind
 exact Int.eq_of_mul_eq_mul_right jb h2
def Tf(n:Nat)(s:Nat->Bool)(u:Nat->Nat):List B:=aY n λi=>[.bool (s i),.str (bn (u i))]
def z2:[B.bool false,s0]=[.bool false,.str (bn 0)]:=rfl
def aqB(n:Nat):rep [.bool false,.str (bn 0)] n=Tf n (λ_=>false) λ_=>0:=NW _ n
def avW(n:Nat)(s:Nat->Bool)(u:Nat->Nat)(i:Nat)(h:i<n):yZ (Tf n s u) (i*2) 2 true=some (.agg [.bool (s i),.str (bn (u i))]):=by unfold Tf;have:=Ap (e:=2) (k:=0) (m:=2) (G:=λi=>[B.bool (s i),.str (bn (u i))]) true (λ_=>rfl) h jj jj;rw[bO]at this;rw[this];rfl
def aqC(n:Nat)(s:Nat->Bool)(u:Nat->Nat)(i:Nat)(h:i<n):yZ (Tf n s u) (i*2) 1 false=some (.c (.bool (s i))):=by unfold Tf;have:=Ap (e:=2) (k:=0) (m:=1) (G:=λi=>[B.bool (s i),.str (bn (u i))]) false (λ_=>rfl) h jj jj;rw[bO]at this;rw[this];rfl
def aqD(n:Nat)(s:Nat->Bool)(u:Nat->Nat)(i:Nat)(h:i<n):yZ (Tf n s u) (i*2+1) 1 false=some (.c (.str (bn (u i)))):=by unfold Tf;have:=Ap (e:=2) (k:=1) (m:=1) (G:=λi=>[B.bool (s i),.str (bn (u i))]) false (λ_=>rfl) h jj jj;rw[this];rfl
def avX(n:Nat)(s:Nat->Bool)(u:Nat->Nat)(i:Nat)(t:Bool)(v:Nat)(h:i<n):wI (Tf n s u) (i*2) [.bool t,.str (bn v)]=some (Tf n (aJ s i t) (aJ u i v)):=by unfold Tf;have:=uS (e:=2) (k:=0) (vs:=[.bool t,.str (bn v)]) (G:=λi=>[B.bool (s i),.str (bn (u i))]) (λ_=>rfl) h (cx 2);rw[bO]at this;rw[this];show some _=some _;congr 1;refine bf λj _=>?_;grind[iC,aJ]
theorem BK{n:Nat}{s t:Nat->Bool}{u v:Nat->Nat}(h:∀i,i<n->s i=t i/\u i=v i):Tf n s u=Tf n t v:=bf λi hi=>by grind
def azT:(false==(true==true))=false:=rfl
def azU:(false==(false==false))=false:=rfl
def azV:(false==(true==false))=true:=rfl
def azW:(false==(false==true))=true:=rfl
attribute [go_sem] z2 aqB avW aqC aqD avX azT azU azV azW
def avY{q:Rat}(h:q.den=1):rd q=⟨#[]⟩:=ab h
def avZ{q:Rat}(h:q.den≠1):rd q=bn q.den:=ae h
def amq{n:Nat}(h:0<n):decide (bn n=⟨#[]⟩)=false:=af λe=>by grind[DF]
def oH{b u:Nat}(h:u<=2^b)(hb:b<=400000000):FH u:=by have:=oM (cW h afg);unfold FH;omega
def afi{J:St}(hW:WF J)(q:Rat):aC EN 190 [.agg (rK q)] J λr J'=>r=.c (.str (bn q.den))/\Fr J J':=by
 refine aN (oZ.o _ _) oZ.h ?_;unfold oZ;dsimp only;have hFr:=Fr.refl hW;by_cases h:q.den=1
 .have e:=avY h;simp(disch:=try exact jz)only[go_sem,e,gd];exact⟨by rw[h],fr⟩
 .have e:=avZ h;have hp:=q.den_pos;simp(disch:=try exact jz)only[go_sem,e,amq hp];exact fr
def aaN{J:St}(hW:WF J)(s t:Bool){u v:Nat}(hu:FH u)(hv:FH v):aC EN 191 [.agg [.bool s,.str (bn u)],.agg [.bool t,.str (bn v)]] J λr J'=>r=.agg [.bool (false==(s==t)),.str (bn (u*v))]/\Fr J J':=by refine aN (nM.o _ _) nM.h ?_;unfold nM;dsimp only;have hFr:=Fr.refl hW;refine WX ?_;exact fr
def amr{J:St}(hW:WF J)(s t:Bool){u v:Nat}(hu:FH u)(hv:FH v):aC EN 192 [.agg [.bool s,.str (bn u)],.agg [.bool t,.str (bn v)]] J λr J'=>(∃w x,r=.agg [.bool w,.str (bn x)]/\iv w x=iv s u-iv t v)/\Fr J J':=by
 refine aN (nN.o _ _) nN.h ?_;unfold nN;dsimp only;have hFr:=Fr.refl hW;by_cases hst:s=t
 .subst hst;have e0:(false==(s==s))=false:=by simp
  by_cases h:v<=u
  .have:=afh s h;simp(disch:=try exact jz)only[go_sem,e0,h,gT,if_false];exact⟨⟨_,_,rfl,afh s h⟩,fr⟩
  .have h2:u<=v:=jb;simp(disch:=try exact jz)only[go_sem,e0,h,h2,gT,if_false];exact⟨⟨_,_,rfl,aqA s h⟩,fr⟩
 .have e0:(false==(s==t))=true:=by grind
  simp(disch:=try exact jz)only[go_sem,e0];exact⟨⟨_,_,rfl,aqz hst u v⟩,fr⟩
def aqE{J:St}(hW:WF J)(s t:Bool){u v:Nat}(hu:FH u)(hv:FH v)(h0:0<v):aC EN 193 [.agg [.bool s,.str (bn u)],.agg [.bool t,.str (bn v)]] J λr J'=>r=.agg [.bool (false==(s==t)),.str (bn (u/v))]/\Fr J J':=by refine aN (oD.o _ _) oD.h ?_;unfold oD;dsimp only;have hFr:=Fr.refl hW;refine WX ?_;exact fr
def Vy{q:Rat}{z:Int}{Q:Nat}(hQ:0<Q)(h:q=(z:Rat)/(Q:Rat)):q.den∣Q/\q.num.natAbs<=z.natAbs:=by
 have e:q=Ins.fr (!(decide (z<0)==decide ((Q:Int)<0))) z.natAbs (Q:Int).natAbs:=by rw[P6 z Q jb];exact h
 rw[gL]at e;obtain⟨h1,h2⟩:=abf (n:=!(decide (z<0)==decide ((Q:Int)<0))) (x:=z.natAbs) hQ;rw[<-e]at h1 h2;exact⟨by grind[Nat.div_dvd_of_dvd,Nat.gcd_dvd_right],by simp_all[oN,fj]⟩
def av1(q:Rat){c:Nat}(h:q.den∣c):((iv (rn q) (q.num.natAbs*(c/q.den)):Int):Rat)=(c:Rat)*q:=by
 obtain⟨k,rfl⟩:=h;have hd:=q.den_pos;rw[Nat.mul_div_cancel_left _ hd];have e1:iv (rn q) (q.num.natAbs*k)=q.num*k:=by grind[iv,rn]
 have e2:(q.num:Rat)=q*(q.den:Rat):=by grind[iJ,Rat.mkRat_self,Rat.mkRat_eq_div]
 have e3:((k:Int):Rat)=(k:Rat):=rfl;rw[e1,cV,e2,eI,e3];grind
theorem adb(c d:Nat):c*(d/Nat.gcd c d)=Nat.lcm c d:=by simp_all[Nat.lcm,Nat.mul_div_assoc,Nat.gcd_dvd_right]
def aqF(s:Nat->Bool)(j k:Nat):Bool:=if k<j then s k else false
def aqG(u:Nat->Nat)(j k:Nat):Nat:=if k<j then u k else 0
def ams{m j:Nat}{s:Nat->Bool}{u:Nat->Nat}:Tf m (aJ (aqF s j) j (s j)) (aJ (aqG u j) j (u j))=Tf m (aqF s (j+1)) (aqG u (j+1)):=BK λk _=>by grind[aJ,aqF,aqG]
def ade{J:St}(hW:WF J){p:Nat->Prop}{v:B}{m:Nat}{r:Nat->Rat}(hr:kX p J.h v m r)(hm:m<=17){Q b:Nat}(hQ:0<Q)(hQb:Q<=2^b)(hb:b<=50000000)(hz:∀k,k<m->∃z:Int,r k=(z:Rat)/(Q:Rat)/\z.natAbs<=2^b):
  aC EN 162 [.c v] J λx J'=>(∃nb c,x=.c (.sl nb 0 m (.ex m))/\J'.h nb=some ⟨Tf m (λk=>rn (r k)) (λk=>(r k).num.natAbs*(c/(r k).den)),none⟩/\J.aj<=nb/\nb<J'.aj/\0<c/\c∣Q/\∀k,k<m->(r k).den∣c)/\Fr J J':=by
 refine aN (tu.o _ _) tu.h ?_
 unfold tu
 dsimp only
 have hFr:=Fr.refl hW
 have hlen:=aZ.len hr
 simp(disch:=try exact jz)only[go_sem,hlen]
 refine bM.mono (Q:=λex tm σ1=>ex=.exit 0/\∃c,r8 tm 0=.c v/\r8 tm 3=.c (.str (bn c))/\0<c/\c∣Q/\(∀k,k<m->(r k).den∣c)/\Fr J σ1)
  (aF (λq tm σ1=>∃j c,q=m-j/\j<=m/\r8 tm 0=.c v/\r8 tm 3=.c (.str (bn c))/\r8 tm 17=.c v/\r8 tm 18=jN m/\r8 tm 19=jN j/\0<c/\c∣Q/\(∀k,k<j->(r k).den∣c)/\Fr J σ1) m ?_ ?_) ?_
 .refine⟨0,1,jb,jb,?_⟩
  refine WN ?_
  exact⟨jj,Nat.one_dvd _,λk h=>absurd h jb,fr⟩
 .rintro q tm σ1 ⟨j,c,rfl,hj,t0,t3,t17,uF,t19,hc,hcQ,hcd,hf⟩
  have lT:=Fr.refl hf.wf
  simp(disch:=try exact jz)only[go_sem,W3,uF,aA]
  refine aH (λhlt=>?_) (λhlt=>?_)
  .obtain⟨b7,o7,c7,e7,-,cZ⟩:=aZ.at3 hr hlt
   have cZ:=hf.ld hW cZ
   have a7:V.c (.sl b7 o7 m c7)=V.c v:=by rw[e7]
   rw[e7]at t17
   obtain⟨z,ez,hz1⟩:=hz j hlt
   obtain⟨hd,hnum⟩:=Vy hQ ez
   have hdp:=(r j).den_pos
   have zc:FH c:=oH (ar (fZ hQ hcQ) hQb) jb
   have zd:FH (r j).den:=oH (ar (fZ hQ hd) hQb) jb
   simp(disch:=try exact jz)only[go_sem,W3,uF,cZ]
   refine aC.st (Fr σ1) (fr) λhF=>?_
   refine(afi hF.wf (r j)).mono ?_
   rintro _ σ2 ⟨rfl,hf2⟩
   have hF2:=(hf.trans hF).trans hf2
   have hgp:0<Nat.gcd c (r j).den:=Nat.gcd_pos_of_pos_left _ hc
   have zg:FH (Nat.gcd c (r j).den):=oH (ar (ar (Nat.gcd_le_left _ hc) (fZ hQ hcQ)) hQb) jb
   have zq:FH ((r j).den/Nat.gcd c (r j).den):=oH (ar (ar (fj _ _) (fZ hQ hd)) hQb) jb
   simp(disch:=try exact jz)only[go_sem,W3,uF]
   refine⟨m-(j+1),jb,j+1,_,rfl,jb,rfl,a7,rfl,?_,?_,λk hk=>?_,hF2⟩
   .grind[adb,Nat.lcm_pos]
   .grind[adb,Nat.lcm_dvd]
   grind[adb,Nat.dvd_lcm_right]
  .have:j=m:=jb
   subst this
   refine WN ?_
   grind
 .rintro _ tm σ1 ⟨rfl,c,t0,t3,hc,hcQ,hcd,hf1⟩
  have WR:=Fr.refl hf1.wf
  have hle1:=hf1.le
  have zc:FH c:=oH (ar (fZ hQ hcQ) hQb) jb
  simp(disch:=try exact jz)only[go_sem,W3,hlen]
  refine aF (λq tm σ2=>∃j,q=m-j/\j<=m/\r8 tm 3=.c (.str (bn c))/\r8 tm 10=.c (.sl σ1.aj 0 m (.ex m))/\r8 tm 41=.c v/\r8 tm 42=jN m/\r8 tm 43=jN j
   /\σ2.h σ1.aj=some ⟨Tf m (aqF (λk=>rn (r k)) j) (aqG (λk=>(r k).num.natAbs*(c/(r k).den)) j),none⟩/\Fr σ1 σ2/\σ1.aj+1<=σ2.aj) m ?_ ?_
  .refine⟨0,jb,jb,?_⟩
   simp(disch:=try exact jz)only[go_sem,am,t3]
   exact⟨bp (λl=>some (Bk.mk l none)) (BK λk _=>⟨(ae jb).symm,(ae jb).symm⟩),fr,jb⟩
  .rintro q tm σ2 ⟨j,rfl,hj,t3,t10,t41,t42,t43,q10,hf2,hnx⟩
   have Nq:=Fr.refl hf2.wf
   have hle2:=hf2.le
   refine W2 ?_
   refine aH (λhlt=>?_) (λhlt=>?_)
   .obtain⟨b7,o7,c7,e7,-,cZ⟩:=aZ.at3 hr hlt
    have cZ:=(hf1.trans hf2).ld hW cZ
    have a7:V.c (.sl b7 o7 m c7)=V.c v:=by rw[e7]
    rw[e7]at t41
    obtain⟨z,ez,hz1⟩:=hz j hlt
    obtain⟨hd,hnum⟩:=Vy hQ ez
    have hdp:=(r j).den_pos
    have zd:FH (r j).den:=oH (ar (fZ hQ hd) hQb) jb
    have zn:FH (r j).num.natAbs:=oH (ar hnum hz1) jb
    have zq:FH (c/(r j).den):=oH (ar (ar (fj _ _) (fZ hQ hcQ)) hQb) jb
    simp(disch:=try exact jz)only[go_sem,W3,cZ]
    refine aC.st (Fr σ2) (fr) λhF=>?_
    refine(afi hF.wf (r j)).mono ?_
    rintro _ σ3 ⟨rfl,hf3⟩
    have azX:=hf3.get hF.wf (hF.get hf2.wf q10)
    have q12:σ3.h σ2.aj=some ⟨(rK (r j)),none⟩:=hf3.get hF.wf (ay _ _ _)
    have hle3:σ2.aj+1<=σ3.aj:=hf3.le
    have hrs:rs (r j)=bn (r j).num.natAbs:=rfl
    have hF3:=(hf2.trans hF).trans hf3
    have hst:=ams (m:=m) (j:=j) (s:=λk=>rn (r k)) (u:=λk=>(r k).num.natAbs*(c/(r k).den))
    simp(disch:=try exact jz)only[go_sem,W3,au q12,q12,hrs,azX,aG azX,hst]
    exact⟨m-(j+1),jb,j+1,rfl,jb,a7,rfl,rfl,fr,jb⟩
   .have:j=m:=jb
    subst this
    simp(disch:=try exact jz)only[go_sem,t10]
    refine⟨⟨_,c,rfl,?_,jb,jb,hc,hcQ,hcd⟩,hf1.trans hf2⟩
    rw[q10]
    exact bp (λl=>some (Bk.mk l none)) (BK λk hk=>⟨ab hk,ab hk⟩)
structure BL(h:Tr Bk)(mb n m:Nat)(A:Nat->Nat->Rat)(bs:Nat->Nat)(lo hi:Nat):Prop where
 o:h mb=some ⟨ones n λi=>.sl (bs i) 0 m .opn,none⟩
 r:∀i,i<n->h (bs i)=some ⟨cO m (A i),some (3,44)⟩/\lo<=bs i/\bs i<hi
 inj:∀i j,i<n->j<n->bs i=bs j->i=j
 b:mb<lo
 l:lo<=hi
def BL.rows{h:Tr Bk}{mb n m lo hi:Nat}{A:Nat->Nat->Rat}{bs:Nat->Nat}(hM:BL h mb n m A bs lo hi){p:Nat->Prop}(hp:∀b,b=mb\/lo<=b/\b<hi->p b):dQ p h (.sl mb 0 n (.ex n)) n (λ_=>m) A:=
 ⟨λi=>.sl (bs i) 0 m .opn,bD _ hM.o rfl (hp _ (.inl rfl)) (λ_=>rfl) jj (λ_ _=>rfl),λi hi=>bD _ (hM.r i hi).1 (Bd _ _ jj) (hp _ (.inr (hM.r i hi).2)) (λ_=>rfl) jj λ_ _=>rfl⟩
def LY(m:Nat)(bs:Nat->Nat)(i:Nat)(v:B)(k:Nat):B:=if k<i then .sl (bs k) 0 m .opn else if k=i then v else .aO
def av2{n m:Nat}{bs:Nat->Nat}:ones n (λ_=>B.aO)=ones n (LY m bs 0 .aO):=dF λk _=>by grind[LY]
def amu{n m i:Nat}{bs:Nat->Nat}(v w:B):ones n (aJ (LY m bs i v) i w)=ones n (LY m bs i w):=dF λk _=>by grind[aJ,LY]
def ahR{n m i b:Nat}{bs:Nat->Nat}:ones n (LY m bs i (.sl b 0 m .opn))=ones n (LY m (aJ bs i b) (i+1) .aO):=dF λk _=>by grind[LY,aJ]
def SG{J:St}(hW:WF J){p:Nat->Prop}{v:B}{n m:Nat}{A:Nat->Nat->Rat}(hA:dQ p J.h v n (λ_=>m) A)(hn2:n<=16)(hm:0<m)(hm2:m<=17)(hz:∀i k,i<n->k<m->Sz (A i k)):
  aC EN 161 [.c v] J λr J'=>(∃mb bs,r=.c (.sl mb 0 n (.ex n))/\J.aj<=mb/\BL J'.h mb n m A bs (mb+1) J'.aj)/\Fr J J':=by
 refine aN (yK.o _ _) yK.h ?_
 unfold yK
 dsimp only
 have hFr:=Fr.refl hW
 have hlen:=hA.len
 simp(disch:=try exact jz)only[go_sem,hlen]
 refine aF (λq tm J'=>∃i bs,q=n-i/\i<=n/\r8 tm 3=.c (.sl J.aj 0 n (.ex n))/\r8 tm 11=.c v/\r8 tm 12=jN n/\r8 tm 13=jN i
  /\J'.h J.aj=some ⟨ones n (LY m bs i .aO),none⟩/\(∀k,k<i->J'.h (bs k)=some ⟨cO m (A k),some (3,44)⟩/\J.aj+1<=bs k/\bs k<J'.aj)/\(∀k l,k<i->l<i->bs k=bs l->k=l)/\Fr J J'/\J.aj+1<=J'.aj) n ?_ ?_
 .refine⟨0,λ_=>0,jb,jb,?_⟩
  refine WN ?_
  exact⟨bp (λl=>some (Bk.mk l none)) av2,λk h=>absurd h jb,λk l h=>absurd h jb,fr,jb⟩
 .rintro q tm J' ⟨i,bs,rfl,hi,t3,t11,t12,t13,q3,hr,hinj,hf,hnx⟩
  have hle:=hf.le
  refine W2 ?_
  refine aH (λhlt=>?_) (λhlt=>?_)
  .obtain⟨b6,o6,c6,T,e6,-,bJ,hT⟩:=hA.at hlt
   have bJ:=hf.ld hW bJ
   have hlT:=aZ.len hT
   have a6:V.c (.sl b6 o6 n c6)=V.c v:=by rw[e6]
   rw[e6]at t11
   simp(disch:=try exact jz)only[go_sem,W3,bJ,hlT]
   refine bM.mono (Q:=λex tm σ4=>ex=.exit 2/\∃b,r8 tm 3=.c (.sl J.aj 0 n (.ex n))/\r8 tm 11=.c (.sl b6 o6 n c6)/\r8 tm 12=jN n/\r8 tm 13=jN i
     /\σ4.h J.aj=some ⟨ones n (LY m bs i (aW m b)),none⟩/\NF NoQ σ4.h b m (λc=>dP (A i c)) 3 44 J'.aj σ4.aj/\aU [J.aj] J' σ4)
    (aF (λq tm σ4=>∃j b,q=m-j/\j<=m/\r8 tm 3=.c (.sl J.aj 0 n (.ex n))/\r8 tm 4=jN i/\r8 tm 11=.c (.sl b6 o6 n c6)/\r8 tm 12=jN n/\r8 tm 13=jN i
     /\r8 tm 18=.c T/\r8 tm 19=jN m/\r8 tm 20=jN j
     /\σ4.h J.aj=some ⟨ones n (LY m bs i (aW j b)),none⟩/\NF NoQ σ4.h b j (λc=>dP (A i c)) 3 44 J'.aj σ4.aj/\aU [J.aj] J' σ4) m ?_ ?_) ?_
   .refine⟨0,J'.aj,jb,jb,?_⟩
    refine W0 ?_
    exact⟨q3,NF.nil λ_=>rfl,aU.refl hf.wf⟩
   .rintro q YG σ4 ⟨j,b,rfl,hj,t3,t4,t11,t12,t13,uF,t19,t20,q4,hN,hf4⟩
    have pK:=hf4.le
    have hg:=hN.g
    have hl1:=hN.l1
    have hl2:=hN.l2
    have hL:=hN.L
    simp(disch:=try exact jz)only[go_sem,W3,uF,aA]
    refine aH (λaaO=>?_) (λaaO=>?_)
    .obtain⟨b7,o7,c7,e7,-,cZ⟩:=aZ.at3 hT aaO
     have azO:=hW.dh cZ
     have cZ:=hf4.ld hf.wf kd (hf.ld hW cZ)
     have a7:V.c (.sl b7 o7 m c7)=V.c T:=by rw[e7]
     rw[e7]at uF
     have z1:=hz i j hlt aaO
     have EC:=aU.refl (ex:=[J.aj]) hf4.wf
     have hnl:=hf4.wf.lt q4
     have eT:LY m bs i (aW j b) i=aW j b:=by unfold LY;rw[ae jb,ab rfl]
     simp(disch:=try exact jz)only[go_sem,W3,uF,cZ,adV,au q4,q4,eT,hg,aG q4,amu]
     refine⟨m-(j+1),jb,j+1,σ4.aj+1+1,rfl,jb,a7,rfl,rfl,?_,by repeat(first|assumption|exact aU.refl (by assumption)|exact aU.up (by assumption) kf|exact aU.up (aU.refl (by assumption)) kf|refine aU.set1 ?_ kg kf|refine aU.jV ?_ kg|refine aU.mX ?_ kg|refine aU.nX ?_ kf)⟩
     refine hN.push (hi1:=σ4.aj) (h1:=σ4.h) (λ_ _=>MZ _) (λ_ _ _ _ h=>h) trivial (λ_ _ _=>rfl) jp jb jb jb ((ak _ _ _ _ jb).trans (ay _ _ _)) rfl (λc h1 h2 h3=>?_) (λ_ _=>rfl) (λ_=>rfl)
     grind[ak,fE]
    .have:j=m:=jb
     subst this
     simp(disch:=try exact jz)only[go_sem,am]
     exact⟨b,t3,t11,t12,t13,q4,hN,hf4⟩
   .rintro _ YG σ4 ⟨rfl,b,t3,t11,t12,t13,q4,hN,hf4⟩
    have pK:=hf4.le
    rw[uo hm,ahR]at q4
    refine WP ?_
    have hl1:=hN.l1
    have hl2:=hN.l2
    have hg:σ4.h b=some ⟨cO m (A i),some (3,44)⟩:=by
     have:=hN.g;cases m with
     |zero=>omega
     |succ m=>exact this
    refine⟨n-(i+1),jb,i+1,aJ bs i b,rfl,jb,a6,rfl,q4,λk hk=>?_,λk l hk hl e=>?_,aU.to hf hf4 (λb hb=>by simp at hb;omega),jb⟩
    .by_cases e:k=i
     .subst e;rw[aI];exact⟨hg,jb,jb⟩
     .obtain⟨k1,k2,k3⟩:=hr k jb
      rw[aQ _ _ _ _ e]
      exact⟨hf4.get hf.wf (by simp<;>omega) k1,k2,jb⟩
    .by_cases e1:k=i<;>by_cases e2:l=i
     .omega
     .exfalso
      rw[e1,aI,aQ _ _ _ _ e2]at e
      have:=(hr l jb).2.2;omega
     .exfalso
      rw[e2,aI,aQ _ _ _ _ e1]at e
      have:=(hr k jb).2.2;omega
     .rw[aQ _ _ _ _ e1,aQ _ _ _ _ e2]at e
      exact hinj k l jb jb e
  .have:i=n:=jb
   subst this
   simp(disch:=try exact jz)only[go_sem,t3]
   refine⟨⟨J.aj,bs,rfl,jp,⟨?_,hr,hinj,jb,jb⟩⟩,hf⟩
   rw[q3]
   exact bp (λl=>some (Bk.mk l none)) (dF λk hk=>ab hk)
end Go.Proofs.Xe
