import Derived.Test.YtodnohicahohdaaGreatDoorYh40
set_option linter.all false
set_option maxRecDepth 100000
set_option maxHeartbeats 8000000
attribute [-go_sem] Go.Proofs.Xe.azd Go.Proofs.Xe.aze Go.Proofs.Xe.azf
namespace Go.Proofs.Ins
def Hg(i r:Nat):Nat:=if r<i then r else r+1
def sg1(k:Nat):Rat:=if k%2=0 then 1 else-1
def jS:Nat->(Nat->Nat->Rat)->Rat
 |0,_=>1
 |k+1,A=>aF (k+1) λi=>sg1 (i+k)*A k i*jS k λc r=>A c (Hg i r)
def jd(A:Nat->Nat->Rat)(a:Nat)(u:Nat->Rat)(c r:Nat):Rat:=if c=a then u r else A c r
def adz{i r k:Nat}(hi:i<k+1)(hr:r<k):Hg i r<k+1:=by grind[Hg]
theorem vV:∀(k:Nat) (A B:Nat->Nat->Rat),(∀c r,c<k->r<k->A c r=B c r)->jS k A=jS k B
 |0,_,_,_=>rfl
 |k+1,A,B,h=>by unfold jS;refine aP λi hi=>?_;rw[h k i jb hi,vV k (λc r=>A c (Hg i r)) (λc r=>B c (Hg i r)) λc r hc hr=>h c _ jb (adz hi hr)]
def Dp:∀(k:Nat) (A:Nat->Nat->Rat) (a:Nat) (u w:Nat->Rat) (s:Rat),a<k->jS k (jd A a λr=>u r+s*w r)=jS k (jd A a u)+s*jS k (jd A a w)
 |0,_,_,_,_,_,h=>jb
 |k+1,A,a,u,w,s,ha=>by
  unfold jS;rw[<-iq,<-dH];refine aP λi hi=>?_;by_cases e:a=k
  .subst e;have h:∀u',jS a (λc r=>jd A a u' c (Hg i r))=jS a λc r=>A c (Hg i r):=λu'=>vV a _ _ λc r hc hr=>by unfold jd;rw[ae jb]
   rw[h,h,h];unfold jd;rw[ab rfl,ab rfl,ab rfl];grind
  .have h:∀u',(λc r=>jd A a u' c (Hg i r))=jd (λc r=>A c (Hg i r)) a λr=>u' (Hg i r):=λu'=>by funext c r;unfold jd;split<;>rfl
   have h2:∀u',jd A a u' k i=A k i:=λu'=>by unfold jd;rw[ae jb]
   rw[h,h,h,h2,h2,h2];have:=Dp k (λc r=>A c (Hg i r)) a (λr=>u (Hg i r)) (λr=>w (Hg i r)) s jb;rw[this];grind
theorem Vq(A:Nat->Nat->Rat)(a:Nat):jd A a (A a)=A:=by grind[jd]
def amW{k:Nat}(halt:∀(A:Nat->Nat->Rat) (a b:Nat),a<b->b<k->(∀r,r<k->A a r=A b r)->jS k A=0)(A:Nat->Nat->Rat){a b:Nat}(hab:a<b)(hb:b<k):
  jS k (jd (jd A a (A b)) b (A a))=-jS k A:=by
 have hne:a≠b:=jb
 have hcomm:∀u v,jd (jd A a u) b v=jd (jd A b v) a u:=λu v=>by grind[jd]
 have h0:=halt (jd (jd A a λr=>A a r+1*A b r) b λr=>A a r+1*A b r) a b hab hb λr _=>by grind[jd]
 have e:∀u v,(∀r,r<k->u r=v r)->jS k (jd (jd A a u) b v)=0:=λu v h=>halt _ a b hab hb λr hr=>by grind[jd]
 rw[Dp k _ b (A a) (A b) 1 hb]at h0
 rw[hcomm _ (A a),hcomm _ (A b),Dp k _ a (A a) (A b) 1 jb,Dp k _ a (A a) (A b) 1 jb]at h0
 grind[Vq]
def aro{n p:Nat}(hp:p<n+1)(f:Nat->Rat):aF n (λi=>f (Hg p i))=aF (n+1) λq=>if q=p then 0 else f q:=by
 induction n generalizing p with
 |zero=>grind[aF]
 |succ n ih=>
  rw[aF,aF]
  by_cases e:p=n+1
  .grind[aF,aP,Hg]
  .rw[ih jb,ae (λh=>e h.symm)]
   grind[Hg]
theorem arp(a b:Nat):sg1 (a+b)=sg1 a*sg1 b:=by grind[sg1]
def NT(p q:Nat):Nat:=if q<p then q else q-1
def arq{p i:Nat}:NT p (Hg p i)=i:=by grind[Hg,NT]
theorem ars{p q:Nat}(h:p≠q)(r:Nat):Hg p (Hg (NT p q) r)=Hg q (Hg (NT q p) r):=by grind[NT,Hg]
theorem awR{p q:Nat}(h:p≠q):sg1 p*sg1 (NT p q)=-(sg1 q*sg1 (NT q p)):=by grind[NT,sg1]
theorem afx(m:Nat)(A:Nat->Nat->Rat)(h:∀r,r<m+2->A m r=A (m+1) r):jS (m+2) A=0:=by
 obtain⟨S,hS⟩:∃S:Nat->Nat->Rat,S=λp q=>if q=p then 0 else sg1 (p+(m+1))*A m p*(sg1 (NT p q+m)*A m q*jS m λc r=>A c (Hg p (Hg (NT p q) r))):=⟨_,rfl⟩
 have h1:jS (m+2) A=aF (m+2) λp=>aF (m+2) λq=>S p q:=by rw[jS];refine aP λp hp=>?_;rw[jS,<-h p hp,<-iq];have e:=aro (n:=m+1) hp λq=>sg1 (p+(m+1))*A m p*(sg1 (NT p q+m)*A m q*jS m λc r=>A c (Hg p (Hg (NT p q) r)));rw[hS];dsimp only;rw[<-e];exact aP λi _=>by rw[arq]
 have h2:∀p q,S p q=-S q p:=λp q=>by grind[ars,awR,arp]
 have h3:aF (m+2) (λp=>aF (m+2) λq=>S p q)=-aF (m+2) λp=>aF (m+2) λq=>S p q:=by
  have a:aF (m+2) (λp=>aF (m+2) λq=>S p q)=aF (m+2) λp=>(-1)*aF (m+2) λq=>S q p:=aP λp _=>by rw[<-iq];grind
  rw[iq,<-BK (m+2) (m+2) λp q=>S p q]at a;grind
 grind
theorem J8:∀(k:Nat) (A:Nat->Nat->Rat) (a b:Nat),a<b->b<k->(∀r,r<k->A a r=A b r)->jS k A=0
 |0,_,_,_,_,h,_=>jb
 |k+1,A,a,b,hab,hb,h=>by
  by_cases e:b=k
  .subst e;obtain⟨m,rfl⟩:∃m,b=m+1:=⟨b-1,jb⟩
   by_cases e2:a=m
   .grind[afx]
   ·--swap columns a and m
    have hs:=afx m (jd (jd A a (A m)) m (A a)) λr hr=>by grind[jd]
    have:jS (m+2) (jd (jd A a (A m)) m (A a))=-jS (m+2) A:=by
     unfold jS;have e3:∀i,jS (m+1) (λc r=>jd (jd A a (A m)) m (A a) c (Hg i r))=-jS (m+1) λc r=>A c (Hg i r):=λi=>by rw[<-amW (k:=m+1) (J8 (m+1)) (λc r=>A c (Hg i r)) (a:=a) (b:=m) jb jb];refine vV _ _ _ λc r _ _=>?_;unfold jd;split<;>(try split)<;>rfl
     have e4:∀i,jd (jd A a (A m)) m (A a) (m+1) i=A (m+1) i:=λi=>by unfold jd;rw[ae jb,ae jb]
     rw[show∀x:Rat,-x=(-1)*x by intro x;grind,<-iq];exact aP λi _=>by rw[e3,e4];grind
    rw[hs]at this;grind
  .unfold jS;exact bP λi hi=>by rw[J8 k (λc r=>A c (Hg i r)) a b hab jb λr hr=>h _ (adz hi hr)];grind
def amX{k a:Nat}(A:Nat->Nat->Rat)(ha:a<k):jS k (jd A a λ_=>0)=0:=by have:=Dp k A a (λ_=>0) (λ_=>0) 1 ha;grind
def Sr{k a:Nat}(A:Nat->Nat->Rat)(ha:a<k)(x:Nat->Rat)(B:Nat->Nat->Rat):∀m,jS k (jd A a λr=>aF m λl=>x l*B l r)=aF m λl=>x l*jS k (jd A a (B l))
 |0=>amX A ha
 |m+1=>by have:(λr=>aF (m+1) λl=>x l*B l r)=λr=>aF m (λl=>x l*B l r)+x m*B m r:=rfl;rw[this,Dp k A a _ _ _ ha,Sr A ha x B m];rfl
def awS{k i:Nat}(A:Nat->Nat->Rat)(hi:i<k)(x w:Nat->Rat)(h:∀r,r<k->w r=aF k λl=>A l r*x l):jS k (jd A i w)=x i*jS k A:=by
 have e:jS k (jd A i w)=jS k (jd A i λr=>aF k λl=>x l*A l r):=vV k _ _ λc r _ hr=>by grind[jd]
 rw[e,Sr A hi];rw[jP hi λl hl hne=>?_,Vq];have:jS k (jd A i (A l))=0:=by
  rcases Nat.lt_or_gt_of_ne hne with hlt|hlt
  .grind[J8,jd]
  grind[J8,jd]
 grind
def amY{k:Nat}(A:Nat->Nat->Rat)(x:Nat->Rat)(h:∀r,r<k->A k r=aF k λl=>A l r*x l):jS (k+1) A=(A k k-aF k λl=>A l k*x l)*jS k A:=by
 obtain⟨s,hs⟩:∃s,s=A k k-aF k λl=>A l k*x l:=⟨_,rfl⟩
 have e:jS (k+1) A=jS (k+1) (jd A k λr=>aF k (λl=>x l*A l r)+s*(if r=k then 1 else 0)):=vV _ _ _ λc r hc hr=>by grind[jd]
 rw[e,Dp _ _ _ _ _ _ jb,Sr A jb,bP λl hl=>?_,<-hs]
 .have:jS (k+1) (jd A k λr=>if r=k then 1 else 0)=jS k A:=by
   rw[show jS (k+1) (jd A k λr=>if r=k then 1 else 0)=aF (k+1) λi=>sg1 (i+k)*jd A k (λr=>if r=k then 1 else 0) k i*jS k λc r=>jd A k (λr=>if r=k then 1 else 0) c (Hg i r)from rfl];rw[jP (k:=k) jb λi _ hne=>?_]
   .grind[Go.Proofs.Ins.sg1,Go.Proofs.Ins.jd,Go.Proofs.Ins.vV,Go.Proofs.Ins.Hg]
   grind[jd]
  grind
 grind[J8,jd]
def Ic(q:Rat):Prop:=∃z:Int,q=(z:Rat)
theorem Ic.add{a b:Rat}(ha:Ic a)(hb:Ic b):Ic (a+b):=by obtain⟨x,rfl⟩:=ha;obtain⟨y,rfl⟩:=hb;exact⟨x+y,by simp⟩
def Ic.mul{a b:Rat}(ha:Ic a)(hb:Ic b):Ic (a*b):=by obtain⟨x,rfl⟩:=ha;obtain⟨y,rfl⟩:=hb;exact⟨x*y,by simp⟩
def Ic.neg{a:Rat}(ha:Ic a):Ic (-a):=by obtain⟨x,rfl⟩:=ha;exact⟨-x,by rfl⟩
def Ic.sub{a b:Rat}(ha:Ic a)(hb:Ic b):Ic (a-b):=by rw[gx];exact ha.add hb.neg
theorem Ic.sum{n:Nat}{f:Nat->Rat}(h:∀i,i<n->Ic (f i)):Ic (aF n f):=by
 induction n with
 |zero=>exact⟨0,rfl⟩
 |succ n ih=>exact(ih λi hi=>h i jb).add (h n jb)
theorem Ic.sg1(k:Nat):Ic (sg1 k):=by unfold Ins.sg1;split;exact⟨1,rfl⟩;exact⟨-1,rfl⟩
def X4:∀(k:Nat) (A:Nat->Nat->Rat),(∀c r,c<k->r<k->Ic (A c r))->Ic (jS k A)
 |0,_,_=>⟨1,rfl⟩
 |k+1,A,h=>by unfold jS;exact .sum λi hi=>((Ic.sg1 _).mul (h k i jb hi)).mul (X4 k _ λc r hc hr=>h c _ jb (adz hi hr))
structure Bar(n k:Nat)(B W:Nat->Nat->Rat)(p:Rat):Prop where
 int:∀i j,i<n->j<=n->Ic (B i j)
 p0:p≠0
 pd:p=jS k λc r=>B r c
 ex:∃X:Nat->Nat->Rat,(∀r j,r<k->j<=n->B r j=aF k λl=>B r l*X l j)/\(∀l j,l<k->j<k->X l j=if l=j then 1 else 0)/\(∀l j,l<k->j<=n->W l j=p*X l j)/\∀i j,k<=i->i<n->j<=n->W i j=p*(B i j-aF k λl=>B i l*X l j)
def aii{n:Nat}{B:Nat->Nat->Rat}(h:∀i j,i<n->j<=n->Ic (B i j)):Bar n 0 B B 1:=
 ⟨h,jj,rfl,λ_ _=>0,λr j hr=>jb,λl j hl=>jb,λl j hl=>jb,λi j _ _ _=>by rw[aF];grind⟩
def Bar.isZ{n k:Nat}{B W:Nat->Nat->Rat}{p:Rat}(h:Bar n k B W p)(hk:k<=n):Ic p/\∀i j,i<n->j<=n->Ic (W i j):=by
 have hp:Ic p:=by rw[h.pd];exact X4 k _ λc r hc hr=>h.int r c jb jb
 obtain⟨X,h1,h2,h3,h4⟩:=h.ex;have h5:∀l j,l<k->j<=n->Ic (p*X l j):=λl j hl hj=>by
  have:=awS (k:=k) (i:=l) (λc r=>B r c) hl (λl=>X l j) (λr=>B r j) λr hr=>h1 r j hr hj;rw[fT,h.pd,<-this];refine X4 k _ λc r hc hr=>?_;unfold jd;split
  .exact h.int r j jb hj
  .exact h.int r c jb jb
 refine⟨hp,λi j hi hj=>?_⟩;by_cases hik:i<k
 .grind
 .rw[h4 i j jb hi hj];have:p*(B i j-aF k λl=>B i l*X l j)=p*B i j-aF k λl=>B i l*(p*X l j):=by
   have e:aF k (λl=>B i l*(p*X l j))=p*aF k λl=>B i l*X l j:=by rw[<-iq];grind
   grind
  rw[this];exact(hp.mul (h.int i j hi hj)).sub (.sum λl hl=>(h.int i l hi jb).mul (h5 l j hl hj))
def L8(W:Nat->Nat->Rat)(k:Nat)(p:Rat)(i j:Nat):Rat:=if i=k then W k j else(W k k*W i j-W i k*W k j)/p
def Bar.swap{n k:Nat}{B W:Nat->Nat->Rat}{p:Rat}(h:Bar n k B W p)(hk:k<n){a:Nat}(ha:k<=a)(han:a<n):Bar n k (λi=>B (swp k a i)) (λi=>W (swp k a i)) p:=by
 obtain⟨X,h1,h2,h3,h4⟩:=h.ex;have hlo:∀i,i<k->swp k a i=i:=λi hi=>by grind[swp]
 have hhi:∀i,k<=i->i<n->k<=swp k a i/\swp k a i<n:=λi hi hin=>by grind[swp]
 refine⟨λi j hi hj=>h.int _ j (qQ hk han hi) hj,h.p0,?_,X,λr j hr hj=>?_,h2,λl j hl hj=>?_,λi j hi hin hj=>?_⟩
 .rw[h.pd];exact vV k _ _ λc r _ hr=>by rw[hlo r hr]
 .rw[hlo r hr];exact h1 r j hr hj
 .rw[hlo l hl];exact h3 l j hl hj
 grind
def Bar.step{n k:Nat}{B W:Nat->Nat->Rat}{p:Rat}(h:Bar n k B W p)(hk:k<n)(h0:W k k≠0):Bar n (k+1) B (L8 W k p) (W k k):=by
 obtain⟨X,h1,h2,h3,h4⟩:=h.ex;have hp0:=h.p0;obtain⟨R,hR⟩:∃R:Nat->Nat->Rat,R=λi j=>B i j-aF k λl=>B i l*X l j:=⟨_,rfl⟩
 have hRe:∀i j,R i j=B i j-aF k λl=>B i l*X l j:=λi j=>by rw[hR]
 have hW:∀i j,k<=i->i<n->j<=n->W i j=p*R i j:=λi j a b d=>by grind
 have hs:R k k≠0:=λe=>h0 kd;have hWk:=hW k k jp hk jb;obtain⟨Y,hY⟩:∃Y:Nat->Rat,∀j,Y j*R k k=R k j:=⟨λj=>R k j/R k k,λj=>cV hs⟩
 have hpd:W k k=jS (k+1) λc r=>B r c:=by rw[amY (λc r=>B r c) (λl=>X l k) λr hr=>h1 r k hr jb,<-h.pd,hWk,hRe,fT]
 have key:∀i j,aF (k+1) (λl=>B i l*(if l=k then Y j else X l j-X l k*Y j))=aF k (λl=>B i l*X l j)+R i k*Y j:=λi j=>by
  rw[aF,ab rfl];have e:aF k (λl=>B i l*(if l=k then Y j else X l j-X l k*Y j))=aF k (λl=>B i l*X l j)-aF k (λl=>B i l*X l k)*Y j:=by rw[<-sF,<-iR];exact aP λl hl=>by rw[ae jb];grind
  grind
 have hdiv:∀a:Rat,(a*p)/p=a:=λa=>by rw[Rat.div_def,Rat.mul_assoc,Rat.mul_inv_cancel _ hp0,Rat.mul_one]
 refine⟨h.int,h0,hpd,λl j=>if l=k then Y j else X l j-X l k*Y j,λr j hr hj=>?_,λl j hl hj=>?_,λl j hl hj=>?_,λi j hi hin hj=>?_⟩
 .rw[key];by_cases e:r=k
  .subst e;have:=hY j;have:=hRe r j;grind
  .have h5:=h1 r j jb hj;have h6:R r k=0:=by have:=h1 r k jb jb;rw[hRe];grind
   rw[h6];grind
 .dsimp only;by_cases e:l=k
  .rw[ab e];by_cases e2:j=k
   .rw[ab jb];have:=hY k;have e3:Y k=1:=by
     have:(Y k-1)*R k k=0:=by grind
     rcases gC.mp this with e|e
     .grind
     .exact absurd e hs
    rw[e2];exact e3
   .rw[ae jb];have h5:R k j=0:=by rw[hRe,jP (k:=j) jb λl hl hne=>by rw[h2 l j hl jb,ae hne];grind,h2 j j jb jb,ab rfl];grind
    have:=hY j;rw[h5]at this;rcases gC.mp this with e|e
    .exact e
    .exact absurd e hs
  .rw[ae e];by_cases e2:j=k
   .subst e2;have e3:Y j=1:=by
     have:=hY j;have:(Y j-1)*R j j=0:=by grind
     rcases gC.mp this with e|e
     .grind
     .exact absurd e hs
    rw[e3,ae e];grind
   .have h5:R k j=0:=by rw[hRe,jP (k:=j) jb λl hl hne=>by rw[h2 l j hl jb,ae hne];grind,h2 j j jb jb,ab rfl];grind
    have e4:Y j=0:=by
     have:=hY j;rw[h5]at this;rcases gC.mp this with e|e
     .exact e
     .exact absurd e hs
    rw[e4,h2 l j jb jb];grind
 .unfold L8;dsimp only;by_cases e:l=k
  .subst e;rw[ab rfl,ab rfl,hWk,hW l j jp hk hj,<-hY j];grind
  .rw[ae e,ae e,hWk,hW k j jp hk hj,h3 l j jb hj,h3 l k jb jb,<-hY j];have:p*R k k*(p*X l j)-p*X l k*(p*(Y j*R k k))=(p*R k k*(X l j-X l k*Y j))*p:=by grind
   rw[this,hdiv]
 grind[L8]
def Bar.pivot{n k:Nat}{B W:Nat->Nat->Rat}{p:Rat}(h:Bar n k B W p)(hk:k<n)(hinj:∀z:Nat->Rat,(∀i,i<n->aF n (λj=>B i j*z j)=0)->∀j,j<n->z j=0):∃i,k<=i/\i<n/\W i k≠0:=by
 refine bh λhno=>?_;obtain⟨X,h1,h2,h3,h4⟩:=h.ex;have hz:∀i,i<n->aF n (λj=>B i j*(if j=k then 1 else if j<k then-X j k else 0))=0:=λi hi=>by
  have e:aF n (λj=>B i j*(if j=k then 1 else if j<k then-X j k else 0))=B i k-aF k λl=>B i l*X l k:=by
   have e1:∀m,m<=n-k-1->aF (k+1+m) (λj=>B i j*(if j=k then 1 else if j<k then-X j k else 0))=B i k-aF k λl=>B i l*X l k:=by
    intro m;induction m with
    |zero=>
     intro _
     rw[cy,aF,ab rfl]
     have:aF k (λj=>B i j*(if j=k then 1 else if j<k then-X j k else 0))=(-1)*aF k λl=>B i l*X l k:=by rw[<-iq];exact aP λj hj=>by rw[ae jb,ab hj];grind
     rw[this];grind
    |succ m ih=>
     intro hm
     rw[<-Nat.add_assoc,aF,ih jb,ae jb,ae jb];grind
   have:=e1 (n-k-1) jp;grind
  rw[e];by_cases hik:i<k
  .have:=h1 i k hik jb;grind
  .have h5:W i k=0:=bh λhne=>hno ⟨i,jb,hi,hne⟩;rw[h4 i k jb hi jb]at h5;rcases gC.mp h5 with e|e
   .exact absurd e h.p0
   .exact e
 have:=hinj _ hz k hk;grind
def Bar.done{n:Nat}{B W:Nat->Nat->Rat}{p:Rat}(h:Bar n n B W p):(∀i,i<n->W i i≠0)/\∀i,i<n->aF n (λl=>B i l*(W l n/W l l))=B i n:=by
 obtain⟨X,h1,h2,h3,h4⟩:=h.ex;have hd:∀l,l<n->W l l=p:=λl hl=>by grind
 refine⟨λi hi=>by rw[hd i hi];exact h.p0,λi hi=>?_⟩;rw[h1 i n hi jp];refine aP λl hl=>?_;rw[hd l hl,h3 l n hl jp];congr 1;rw[fT,Rat.div_def,Rat.mul_assoc,Rat.mul_inv_cancel _ h.p0,Rat.mul_one]
end Go.Proofs.Ins
namespace Go.Proofs.Xe
open Go.RowKit Go.Proofs.Ins
def mW(b:Nat)(q:Rat):Prop:=∃(z:Int) (Q:Nat),0<Q/\Q<=2^b/\z.natAbs<=2^b/\q=(z:Rat)/(Q:Rat)
def afy{b:Nat}:2^b<256^(b/8+1):=by have e:(2:Nat)^(8*(b/8+1))=(2^8)^(b/8+1):=Nat.pow_mul 2 8 _;have e2:(2:Nat)^8=256:=rfl;rw[e2]at e;rw[<-e];exact Nat.pow_lt_pow_right jj jb
theorem Aw{a b:Nat}(h:a<=b):2^a<=2^b:=bN jj h
def qU{a b x y:Nat}(h:x<=2^a)(h':y<=2^b):x*y<=2^(a+b):=by simp_all[dx,cK]
def mW.sz{b:Nat}{q:Rat}(h:mW b q)(hb:b<=200000000):Sz q:=by obtain⟨z,Q,h1,h2,h3,rfl⟩:=h;have a:Sm (b/8+1) (z:Rat):=Sm.int jb (cT h3 afy);have c:Sm (b/8+1) ((Q:Int):Rat):=Sm.int jb (cT jb afy);exact(a.div c (iT h1)).mono (by unfold szK;omega)
def mW.mono{a b:Nat}{q:Rat}(h:mW a q)(hab:a<=b):mW b q:=by obtain⟨z,Q,h1,h2,h3,e⟩:=h;exact⟨z,Q,h1,ar h2 (Aw hab),ar h3 (Aw hab),e⟩
def mW.int{b:Nat}{z:Int}(h:z.natAbs<=2^b):mW b (z:Rat):=⟨z,1,jj,gH,h,by grind⟩
def mW.mul{a b:Nat}{p q:Rat}(h:mW a p)(h':mW b q):mW (a+b) (p*q):=by obtain⟨z,Q,h1,h2,h3,rfl⟩:=h;obtain⟨y,R,k1,k2,k3,rfl⟩:=h';refine⟨z*y,Q*R,bR h1 k1,by simp_all[dx,cK],by simp_all[eO,dx,cK],?_⟩;grind
def mW.neg{a:Nat}{p:Rat}(h:mW a p):mW a (-p):=by obtain⟨z,Q,h1,h2,h3,rfl⟩:=h;refine⟨-z,Q,h1,h2,jb,?_⟩;grind
def adA{s:Int}(h:s=1\/s=-1):(s:Rat)*(s:Rat)=1:=by rw[<-cR];rcases h with rfl|rfl<;>rfl
def aAt{s:Rat}(h:s*s=1):s≠0:=λe=>by grind
def X5(z:Int):∃s:Int,(s=1\/s=-1)/\((z.natAbs:Nat):Rat)=(s:Rat)*(z:Rat):=by
 have key:∀w:Int,(z.natAbs:Int)=w->((z.natAbs:Nat):Rat)=(w:Rat):=λw h=>by
  have:(((z.natAbs:Nat):Int):Rat)=(w:Rat):=by rw[h]
  exact this
 rcases Int.le_total 0 z with h0|h0
 .grind
 .refine⟨-1,.inr rfl,?_⟩;rw[key (-z) jb,Rat.intCast_neg];grind
def mW.div{a b:Nat}{p q:Rat}(h:mW a p)(h':mW b q)(h0:q≠0):mW (a+b) (p/q):=by
 obtain⟨z,Q,h1,h2,h3,rfl⟩:=h;obtain⟨y,R,k1,k2,k3,rfl⟩:=h';have hy:y≠0:=λe=>h0 (by rw[e];grind);obtain⟨s,hs,es⟩:=X5 y;have hyr:(y:Rat)≠0:=λe=>hy (eL.mp e);have hss:=adA hs;refine⟨s*(z*R),Q*y.natAbs,bR h1 jb,by simp_all[dx,cK],?_,?_⟩
 .have e:(s*(z*R)).natAbs=z.natAbs*R:=by grind[Int.natAbs_mul]
  simp_all[dx,cK]
 .have a1:=iT h1;have a2:=iT k1;rw[cR,cR,eJ,es];have e2:(((R:Nat):Int):Rat)=(R:Rat):=rfl;grind
def FP(rows m a:Nat)(A:Nat->Nat->Rat):Prop:=∃Q:Nat,0<Q/\Q<=2^a/\∀i k,i<rows->k<m->∃z:Int,A i k=(z:Rat)/(Q:Rat)/\z.natAbs<=2^a
section
variable {rows m a b r p c:Nat} {A:Nat→Nat→Rat}
def FP.rat(h:FP rows m a A){i k:Nat}(hi:i<rows)(hk:k<m):mW a (A i k):=by obtain⟨Q,h1,h2,h3⟩:=h;obtain⟨z,e,hz⟩:=h3 i k hi hk;exact⟨z,Q,h1,h2,hz,e⟩
def FP.mono(h:FP rows m a A)(hab:a<=b):FP rows m b A:=by obtain⟨Q,h1,h2,h3⟩:=h;refine⟨Q,h1,ar h2 (Aw hab),λi k hi hk=>?_⟩;grind[Nat.le_trans,Aw]
theorem FP.elim(h:FP rows m a A)(hr:r<rows)(hp:p<rows)(hc:c<m)(h0:A p c≠0):FP rows m (2*a+1) (elim A r p c):=by
 obtain⟨Q,h1,h2,h3⟩:=h;obtain⟨P,eP,hP⟩:=h3 p c hp hc;have hP0:P≠0:=λe=>h0 (by rw[eP,e];grind);obtain⟨s,hs,es⟩:=X5 P;have hPr:(P:Rat)≠0:=λe=>hP0 (eL.mp e);have hss:=adA hs;have a1:=iT h1;have e2:(2:Nat)^(2*a+1)=2^a*2^a+2^a*2^a:=by rw[dm,Nat.two_mul a,dx];omega
 have hQP:Q*P.natAbs<=2^a*2^a:=cK h2 hP;have hab:∀x:Int,(s*x).natAbs=x.natAbs:=λx=>by grind
 refine⟨Q*P.natAbs,bR h1 jb,jb,λi k hi hk=>?_⟩;obtain⟨z,ez,hz⟩:=h3 p k hp hk;unfold Ins.elim;have hs0:=aAt hss;by_cases e:i=r
 .rw[ab e];refine⟨s*(z*Q),?_,?_⟩
  .rw[ez,eP,cR,cR,eJ,es];have e3:(((Q:Nat):Int):Rat)=(Q:Rat):=rfl;grind
  .rw[hab,eO,gL];have:=cK hz h2;omega
 .rw[ae e];obtain⟨y,ey,hy⟩:=h3 _ k (qQ hr hp hi) hk;obtain⟨w,ew,hw⟩:=h3 _ c (qQ hr hp hi) hc;refine⟨s*(y*P-w*z),?_,?_⟩
  .rw[ey,ew,ez,eP,cR,Rat.intCast_sub,cR,cR,eJ,es];generalize (s:Rat)=s at*;generalize (P:Rat)=P at*;grind
  .rw[hab];have k1:=cK hy hP;have k2:=cK hw hz;have k3:(y*P-w*z).natAbs<=(y*P).natAbs+(w*z).natAbs:=jb;rw[eO,eO]at k3;omega
def NV(a:Nat):Nat->Nat
 |0=>a
 |c+1=>2*NV a c+1
def Cc(a:Nat){c:Nat}:∀{d:Nat},c<=d->NV a c<=NV a d
 |0,h=>by grind
 |d+1,h=>by
  rcases dE c (d+1)with h2|h2
  .have:=Cc a (c:=c) (d:=d) jb;show _<=2*NV a d+1;omega
  grind
def amZ(a:Nat):∀c,a<=NV a c:=λc=>Cc a (aR c)
def Vr(h:FP rows m a A):∀{c:Nat},c<=m->FP rows m (NV a c) (ech rows A c).1
 |0,_=>h
 |c+1,hc=>by
  have ih:=Vr h (c:=c) jb;show FP rows m (2*NV a c+1) (TY rows (ech rows A c).1 (ech rows A c).2 c).1;generalize (ech rows A c).1=A' at*;generalize (ech rows A c).2=P;unfold TY;split
  .split
   .next h1 h2=>
    obtain⟨-,-,h3⟩:=GX A' c (rows-P.length) P.length;exact ih.elim h1 h2 jb (h3 jb)
   .exact ih.mono jb
  .exact ih.mono jb
def adB(rows:Nat)(A:Nat->Nat->Rat)(P:List Nat)(c:Nat)(q:Rat):Rat:=
 if P.length<rows then
  (if P.length+wZ A c P.length (rows-P.length)<rows then(if wZ A c P.length (rows-P.length)=0 then q else-q)*A (P.length+wZ A c P.length (rows-P.length)) c else q)
 else q
def yI(rows:Nat)(A:Nat->Nat->Rat):Nat->Rat
 |0=>1
 |c+1=>adB rows (ech rows A c).1 (ech rows A c).2 c (yI rows A c)
def adC(h:FP rows m a A):∀{c:Nat},c<=m->mW (NV a c) (yI rows A c)
 |0,_=>mW.int (z:=1) (gH)
 |c+1,hc=>by
  have ih:=adC h (c:=c) jb;have hA:=Vr h (c:=c) jb;show mW (2*NV a c+1) (adB rows (ech rows A c).1 (ech rows A c).2 c (yI rows A c));generalize (ech rows A c).1=A' at*;generalize (ech rows A c).2=P;unfold adB;split
  .split
   .next h1 h2=>
    refine mW.mono (mW.mul (a:=NV a c) ?_ (hA.rat h2 jb)) jb;split
    .exact ih
    .exact ih.neg
   .exact ih.mono jb
  .exact ih.mono jb
end
def iv(s:Bool)(u:Nat):Int:=if s=true then-(u:Int)else(u:Int)
theorem Bg(s:Bool)(u:Nat):(iv s u).natAbs=u:=by cases s<;>simp[iv]
def am0(s:Bool){u:Nat}:iv s u=0↔u=0:=by cases s<;>simp[iv]
def am1(s t:Bool)(u v:Nat):iv (false==(s==t)) (u*v)=iv s u*iv t v:=by cases s<;>cases t<;>simp[iv]<;>grind
def aru{s t:Bool}(h:s≠t)(u v:Nat):iv s (u+v)=iv s u-iv t v:=by cases s<;>cases t<;>simp_all [iv]<;>omega
def afz(s:Bool){u v:Nat}(h:v<=u):iv s (u-v)=iv s u-iv s v:=by cases s<;>simp[iv]<;>omega
def arv(s:Bool){u v:Nat}(h:¬v<=u):iv (!s) (v-u)=iv s u-iv s v:=by cases s<;>simp[iv]<;>omega
def awT{s t:Bool}{u v:Nat}{q:Int}(h:iv s u=q*iv t v)(hv:v≠0):iv (false==(s==t)) (u/v)=q:=by
 have ha:u=q.natAbs*v:=by have:=br Int.natAbs h;rwa[Bg,eO,Bg]at this
 have hq:u/v=q.natAbs:=by rw[ha];exact Nat.mul_div_cancel _ jb
 rw[hq];have h2:iv (false==(s==t)) q.natAbs*(v:Int)=q*(v:Int):=by
  have e:(u:Int)=(q.natAbs:Int)*(v:Int):=by rw[ha,Int.natCast_mul]
  cases s<;>cases t<;>simp[iv]at h⊢ <;>grind
 exact Int.eq_of_mul_eq_mul_right jb h2
def Ti(n:Nat)(s:Nat->Bool)(u:Nat->Nat):List B:=bf n λi=>[.bool (s i),.str (bn (u i))]
def z2:[B.bool false,s0]=[.bool false,.str (bn 0)]:=rfl
def arw(n:Nat):rep [.bool false,.str (bn 0)] n=Ti n (λ_=>false) λ_=>0:=Oe _ n
def awU(n:Nat)(s:Nat->Bool)(u:Nat->Nat)(i:Nat)(h:i<n):zT (Ti n s u) (i*2) 2 true=some (.agg [.bool (s i),.str (bn (u i))]):=by unfold Ti;have:=AQ (e:=2) (k:=0) (m:=2) (G:=λi=>[B.bool (s i),.str (bn (u i))]) true (λ_=>rfl) h jj jj;rw[cy]at this;rw[this];rfl
def arx(n:Nat)(s:Nat->Bool)(u:Nat->Nat)(i:Nat)(h:i<n):zT (Ti n s u) (i*2) 1 false=some (.c (.bool (s i))):=by unfold Ti;have:=AQ (e:=2) (k:=0) (m:=1) (G:=λi=>[B.bool (s i),.str (bn (u i))]) false (λ_=>rfl) h jj jj;rw[cy]at this;rw[this];rfl
def arz(n:Nat)(s:Nat->Bool)(u:Nat->Nat)(i:Nat)(h:i<n):zT (Ti n s u) (i*2+1) 1 false=some (.c (.str (bn (u i)))):=by unfold Ti;have:=AQ (e:=2) (k:=1) (m:=1) (G:=λi=>[B.bool (s i),.str (bn (u i))]) false (λ_=>rfl) h jj jj;rw[this];rfl
def awV(n:Nat)(s:Nat->Bool)(u:Nat->Nat)(i:Nat)(t:Bool)(v:Nat)(h:i<n):yc (Ti n s u) (i*2) [.bool t,.str (bn v)]=some (Ti n (aO s i t) (aO u i v)):=by unfold Ti;have:=yP (e:=2) (k:=0) (vs:=[.bool t,.str (bn v)]) (G:=λi=>[B.bool (s i),.str (bn (u i))]) (λ_=>rfl) h (cL 2);rw[cy]at this;rw[this];show some _=some _;congr 1;refine bC λj _=>?_;grind[je,aO]
theorem Ce{n:Nat}{s t:Nat->Bool}{u v:Nat->Nat}(h:∀i,i<n->s i=t i/\u i=v i):Ti n s u=Ti n t v:=bC λi hi=>by grind
def aAu:(false==(true==true))=false:=rfl
def aAv:(false==(false==false))=false:=rfl
def aAw:(false==(true==false))=true:=rfl
def aAx:(false==(false==true))=true:=rfl
attribute [go_sem] z2 arw awU arx arz awV aAu aAv aAw aAx
def awW{q:Rat}(h:q.den=1):rd q=⟨#[]⟩:=ab h
def awX{q:Rat}(h:q.den≠1):rd q=bn q.den:=ae h
def am2{n:Nat}(h:0<n):decide (bn n=⟨#[]⟩)=false:=ap λe=>by grind[Ea]
def oJ{b u:Nat}(h:u<=2^b)(hb:b<=400000000):Gh u:=by have:=mZ (cT h afy);unfold Gh;omega
def afA{J:St}(hW:WF J)(q:Rat):aB EN 311 [.agg (rK q)] J λr J'=>r=.c (.str (bn q.den))/\Fr J J':=by
 refine aI (pF.o _ _) pF.h ?_;unfold pF;dsimp only;have hFr:=Fr.refl hW;by_cases h:q.den=1
 .have e:=awW h;simp(disch:=try exact jz)only[go_sem,e,gh];exact⟨by rw[h],fr⟩
 .have e:=awX h;have hp:=q.den_pos;simp(disch:=try exact jz)only[go_sem,e,am2 hp];exact fr
def aaU{J:St}(hW:WF J)(s t:Bool){u v:Nat}(hu:Gh u)(hv:Gh v):aB EN 312 [.agg [.bool s,.str (bn u)],.agg [.bool t,.str (bn v)]] J λr J'=>r=.agg [.bool (false==(s==t)),.str (bn (u*v))]/\Fr J J':=by refine aI (nR.o _ _) nR.h ?_;unfold nR;dsimp only;have hFr:=Fr.refl hW;refine WN ?_;exact fr
def am3{J:St}(hW:WF J)(s t:Bool){u v:Nat}(hu:Gh u)(hv:Gh v):aB EN 313 [.agg [.bool s,.str (bn u)],.agg [.bool t,.str (bn v)]] J λr J'=>(∃w x,r=.agg [.bool w,.str (bn x)]/\iv w x=iv s u-iv t v)/\Fr J J':=by
 refine aI (nS.o _ _) nS.h ?_;unfold nS;dsimp only;have hFr:=Fr.refl hW;by_cases hst:s=t
 .subst hst;have e0:(false==(s==s))=false:=by simp
  by_cases h:v<=u
  .have:=afz s h;simp(disch:=try exact jz)only[go_sem,e0,h,fX,ib];exact⟨⟨_,_,rfl,afz s h⟩,fr⟩
  .have h2:u<=v:=jb;simp(disch:=try exact jz)only[go_sem,e0,h,h2,fX,ib];exact⟨⟨_,_,rfl,arv s h⟩,fr⟩
 .have e0:(false==(s==t))=true:=by grind
  simp(disch:=try exact jz)only[go_sem,e0];exact⟨⟨_,_,rfl,aru hst u v⟩,fr⟩
def arA{J:St}(hW:WF J)(s t:Bool){u v:Nat}(hu:Gh u)(hv:Gh v)(h0:0<v):aB EN 314 [.agg [.bool s,.str (bn u)],.agg [.bool t,.str (bn v)]] J λr J'=>r=.agg [.bool (false==(s==t)),.str (bn (u/v))]/\Fr J J':=by refine aI (oG.o _ _) oG.h ?_;unfold oG;dsimp only;have hFr:=Fr.refl hW;refine WN ?_;exact fr
def Vs{q:Rat}{z:Int}{Q:Nat}(hQ:0<Q)(h:q=(z:Rat)/(Q:Rat)):q.den∣Q/\q.num.natAbs<=z.natAbs:=by
 have e:q=Ins.fr (!(decide (z<0)==decide ((Q:Int)<0))) z.natAbs (Q:Int).natAbs:=by rw[Qb z Q jb];exact h
 rw[gL]at e;obtain⟨h1,h2⟩:=abD (n:=!(decide (z<0)==decide ((Q:Int)<0))) (x:=z.natAbs) hQ;rw[<-e]at h1 h2;exact⟨by grind[Nat.div_dvd_of_dvd,Nat.gcd_dvd_right],by simp_all[ni,fk]⟩
def awY(q:Rat){c:Nat}(h:q.den∣c):((iv (rn q) (q.num.natAbs*(c/q.den)):Int):Rat)=(c:Rat)*q:=by
 obtain⟨k,rfl⟩:=h;have hd:=q.den_pos;rw[Nat.mul_div_cancel_left _ hd];have e1:iv (rn q) (q.num.natAbs*k)=q.num*k:=by grind[iv,rn]
 have e2:(q.num:Rat)=q*(q.den:Rat):=by grind[iT,Rat.mkRat_self,Rat.mkRat_eq_div]
 have e3:((k:Int):Rat)=(k:Rat):=rfl;rw[e1,cR,e2,eJ,e3];grind
theorem adE(c d:Nat):c*(d/Nat.gcd c d)=Nat.lcm c d:=by simp_all[Nat.lcm,Nat.mul_div_assoc,Nat.gcd_dvd_right]
def arB(s:Nat->Bool)(j k:Nat):Bool:=if k<j then s k else false
def arC(u:Nat->Nat)(j k:Nat):Nat:=if k<j then u k else 0
def am4{m j:Nat}{s:Nat->Bool}{u:Nat->Nat}:Ti m (aO (arB s j) j (s j)) (aO (arC u j) j (u j))=Ti m (arB s (j+1)) (arC u (j+1)):=Ce λk _=>by grind[aO,arB,arC]
def adF{J:St}(hW:WF J){p:Nat->Prop}{v:B}{m:Nat}{r:Nat->Rat}(hr:kS p J.h v m r)(hm:m<=17){Q b:Nat}(hQ:0<Q)(hQb:Q<=2^b)(hb:b<=50000000)(hz:∀k,k<m->∃z:Int,r k=(z:Rat)/(Q:Rat)/\z.natAbs<=2^b):
  aB EN 274 [.c v] J λx J'=>(∃nb c,x=.c (.sl nb 0 m (.ex m))/\J'.h nb=some ⟨Ti m (λk=>rn (r k)) (λk=>(r k).num.natAbs*(c/(r k).den)),none⟩/\J.aj<=nb/\nb<J'.aj/\0<c/\c∣Q/\∀k,k<m->(r k).den∣c)/\Fr J J':=by
 refine aI (uo.o _ _) uo.h ?_
 unfold uo
 dsimp only
 have hFr:=Fr.refl hW
 have hlen:=aZ.len hr
 simp(disch:=try exact jz)only[go_sem,hlen]
 refine bI.mono (Q:=λex tm σ1=>ex=.exit 0/\∃c,r8 tm 0=.c v/\r8 tm 3=.c (.str (bn c))/\0<c/\c∣Q/\(∀k,k<m->(r k).den∣c)/\Fr J σ1)
  (aG (λq tm σ1=>∃j c,q=m-j/\j<=m/\r8 tm 0=.c v/\r8 tm 3=.c (.str (bn c))/\r8 tm 17=.c v/\r8 tm 18=jN m/\r8 tm 19=jN j/\0<c/\c∣Q/\(∀k,k<j->(r k).den∣c)/\Fr J σ1) m ?_ ?_) ?_
 .refine⟨0,1,jb,jb,?_⟩
  refine WP ?_
  exact⟨jj,Nat.one_dvd _,λk h=>absurd h jb,fr⟩
 .rintro q tm σ1 ⟨j,c,rfl,hj,t0,t3,t17,qV,t19,hc,hcQ,hcd,hf⟩
  have lM:=Fr.refl hf.wf
  simp(disch:=try exact jz)only[go_sem,W4,qV,aC]
  refine aH (λhlt=>?_) (λhlt=>?_)
  .obtain⟨b7,o7,c7,e7,-,dB⟩:=aZ.at3 hr hlt
   have dB:=hf.ld hW dB
   have a7:V.c (.sl b7 o7 m c7)=V.c v:=by rw[e7]
   rw[e7]at t17
   obtain⟨z,ez,hz1⟩:=hz j hlt
   obtain⟨hd,hnum⟩:=Vs hQ ez
   have hdp:=(r j).den_pos
   have zc:Gh c:=oJ (ar (gw hQ hcQ) hQb) jb
   have zd:Gh (r j).den:=oJ (ar (gw hQ hd) hQb) jb
   simp(disch:=try exact jz)only[go_sem,W4,qV,dB]
   refine aB.st (Fr σ1) (fr) λhF=>?_
   refine(afA hF.wf (r j)).mono ?_
   rintro _ σ2 ⟨rfl,hf2⟩
   have hF2:=(hf.trans hF).trans hf2
   have hgp:0<Nat.gcd c (r j).den:=Nat.gcd_pos_of_pos_left _ hc
   have zg:Gh (Nat.gcd c (r j).den):=oJ (ar (ar (Nat.gcd_le_left _ hc) (gw hQ hcQ)) hQb) jb
   have zq:Gh ((r j).den/Nat.gcd c (r j).den):=oJ (ar (ar (fk _ _) (gw hQ hd)) hQb) jb
   simp(disch:=try exact jz)only[go_sem,W4,qV]
   refine⟨m-(j+1),jb,j+1,_,rfl,jb,rfl,a7,rfl,?_,?_,λk hk=>?_,hF2⟩
   .grind[adE,Nat.lcm_pos]
   .grind[adE,Nat.lcm_dvd]
   grind[adE,Nat.dvd_lcm_right]
  .have:j=m:=jb
   subst this
   refine WP ?_
   grind
 .rintro _ tm σ1 ⟨rfl,c,t0,t3,hc,hcQ,hcd,hf1⟩
  have ac9:=Fr.refl hf1.wf
  have hle1:=hf1.le
  have zc:Gh c:=oJ (ar (gw hQ hcQ) hQb) jb
  simp(disch:=try exact jz)only[go_sem,W4,hlen]
  refine aG (λq tm σ2=>∃j,q=m-j/\j<=m/\r8 tm 3=.c (.str (bn c))/\r8 tm 10=.c (.sl σ1.aj 0 m (.ex m))/\r8 tm 41=.c v/\r8 tm 42=jN m/\r8 tm 43=jN j
   /\σ2.h σ1.aj=some ⟨Ti m (arB (λk=>rn (r k)) j) (arC (λk=>(r k).num.natAbs*(c/(r k).den)) j),none⟩/\Fr σ1 σ2/\σ1.aj+1<=σ2.aj) m ?_ ?_
  .refine⟨0,jb,jb,?_⟩
   simp(disch:=try exact jz)only[go_sem,am,t3]
   exact⟨br (λl=>some (Bk.mk l none)) (Ce λk _=>⟨(ae jb).symm,(ae jb).symm⟩),fr,jb⟩
  .rintro q tm σ2 ⟨j,rfl,hj,t3,t10,t41,t42,t43,q10,hf2,hnx⟩
   have JB:=Fr.refl hf2.wf
   have hle2:=hf2.le
   refine W3 ?_
   refine aH (λhlt=>?_) (λhlt=>?_)
   .obtain⟨b7,o7,c7,e7,-,dB⟩:=aZ.at3 hr hlt
    have dB:=(hf1.trans hf2).ld hW dB
    have a7:V.c (.sl b7 o7 m c7)=V.c v:=by rw[e7]
    rw[e7]at t41
    obtain⟨z,ez,hz1⟩:=hz j hlt
    obtain⟨hd,hnum⟩:=Vs hQ ez
    have hdp:=(r j).den_pos
    have zd:Gh (r j).den:=oJ (ar (gw hQ hd) hQb) jb
    have zn:Gh (r j).num.natAbs:=oJ (ar hnum hz1) jb
    have zq:Gh (c/(r j).den):=oJ (ar (ar (fk _ _) (gw hQ hcQ)) hQb) jb
    simp(disch:=try exact jz)only[go_sem,W4,dB]
    refine aB.st (Fr σ2) (fr) λhF=>?_
    refine(afA hF.wf (r j)).mono ?_
    rintro _ σ3 ⟨rfl,hf3⟩
    have aAy:=hf3.get hF.wf (hF.get hf2.wf q10)
    have q12:σ3.h σ2.aj=some ⟨(rK (r j)),none⟩:=hf3.get hF.wf (aA _ _ _)
    have hle3:σ2.aj+1<=σ3.aj:=hf3.le
    have hrs:rs (r j)=bn (r j).num.natAbs:=rfl
    have hF3:=(hf2.trans hF).trans hf3
    have hst:=am4 (m:=m) (j:=j) (s:=λk=>rn (r k)) (u:=λk=>(r k).num.natAbs*(c/(r k).den))
    simp(disch:=try exact jz)only[go_sem,W4,ay q12,q12,hrs,aAy,aJ aAy,hst]
    exact⟨m-(j+1),jb,j+1,rfl,jb,a7,rfl,rfl,fr,jb⟩
   .have:j=m:=jb
    subst this
    simp(disch:=try exact jz)only[go_sem,t10]
    refine⟨⟨_,c,rfl,?_,jb,jb,hc,hcQ,hcd⟩,hf1.trans hf2⟩
    rw[q10]
    exact br (λl=>some (Bk.mk l none)) (Ce λk hk=>⟨ab hk,ab hk⟩)
structure Ci(h:Tr Bk)(mb n m:Nat)(A:Nat->Nat->Rat)(bs:Nat->Nat)(lo hi:Nat):Prop where
 o:h mb=some ⟨ones n λi=>.sl (bs i) 0 m .opn,none⟩
 r:∀i,i<n->h (bs i)=some ⟨dh m (A i),some (3,69)⟩/\lo<=bs i/\bs i<hi
 inj:∀i j,i<n->j<n->bs i=bs j->i=j
 b:mb<lo
 l:lo<=hi
def Ci.rows{h:Tr Bk}{mb n m lo hi:Nat}{A:Nat->Nat->Rat}{bs:Nat->Nat}(hM:Ci h mb n m A bs lo hi){p:Nat->Prop}(hp:∀b,b=mb\/lo<=b/\b<hi->p b):dP p h (.sl mb 0 n (.ex n)) n (λ_=>m) A:=
 ⟨λi=>.sl (bs i) 0 m .opn,bK _ hM.o rfl (hp _ (.inl rfl)) (λ_=>rfl) jj (λ_ _=>rfl),λi hi=>bK _ (hM.r i hi).1 (DI _ _ jj) (hp _ (.inr (hM.r i hi).2)) (λ_=>rfl) jj λ_ _=>rfl⟩
def L9(m:Nat)(bs:Nat->Nat)(i:Nat)(v:B)(k:Nat):B:=if k<i then .sl (bs k) 0 m .opn else if k=i then v else .aQ
def awZ{n m:Nat}{bs:Nat->Nat}:ones n (λ_=>B.aQ)=ones n (L9 m bs 0 .aQ):=dF λk _=>by grind[L9]
def am5{n m i:Nat}{bs:Nat->Nat}(v w:B):ones n (aO (L9 m bs i v) i w)=ones n (L9 m bs i w):=dF λk _=>by grind[aO,L9]
def aij{n m i b:Nat}{bs:Nat->Nat}:ones n (L9 m bs i (.sl b 0 m .opn))=ones n (L9 m (aO bs i b) (i+1) .aQ):=dF λk _=>by grind[L9,aO]
def SA{J:St}(hW:WF J){p:Nat->Prop}{v:B}{n m:Nat}{A:Nat->Nat->Rat}(hA:dP p J.h v n (λ_=>m) A)(hn2:n<=16)(hm:0<m)(hm2:m<=17)(hz:∀i k,i<n->k<m->Sz (A i k)):
  aB EN 273 [.c v] J λr J'=>(∃mb bs,r=.c (.sl mb 0 n (.ex n))/\J.aj<=mb/\Ci J'.h mb n m A bs (mb+1) J'.aj)/\Fr J J':=by
 refine aI (yX.o _ _) yX.h ?_
 unfold yX
 dsimp only
 have hFr:=Fr.refl hW
 have hlen:=hA.len
 simp(disch:=try exact jz)only[go_sem,hlen]
 refine aG (λq tm J'=>∃i bs,q=n-i/\i<=n/\r8 tm 3=.c (.sl J.aj 0 n (.ex n))/\r8 tm 11=.c v/\r8 tm 12=jN n/\r8 tm 13=jN i
  /\J'.h J.aj=some ⟨ones n (L9 m bs i .aQ),none⟩/\(∀k,k<i->J'.h (bs k)=some ⟨dh m (A k),some (3,69)⟩/\J.aj+1<=bs k/\bs k<J'.aj)/\(∀k l,k<i->l<i->bs k=bs l->k=l)/\Fr J J'/\J.aj+1<=J'.aj) n ?_ ?_
 .refine⟨0,λ_=>0,jb,jb,?_⟩
  refine WP ?_
  exact⟨br (λl=>some (Bk.mk l none)) awZ,λk h=>absurd h jb,λk l h=>absurd h jb,fr,jb⟩
 .rintro q tm J' ⟨i,bs,rfl,hi,t3,t11,t12,t13,q3,hr,hinj,hf,hnx⟩
  have hle:=hf.le
  refine W3 ?_
  refine aH (λhlt=>?_) (λhlt=>?_)
  .obtain⟨b6,o6,c6,T,e6,-,bV,hT⟩:=hA.at hlt
   have bV:=hf.ld hW bV
   have hlT:=aZ.len hT
   have a6:V.c (.sl b6 o6 n c6)=V.c v:=by rw[e6]
   rw[e6]at t11
   simp(disch:=try exact jz)only[go_sem,W4,bV,hlT]
   refine bI.mono (Q:=λex tm σ4=>ex=.exit 2/\∃b,r8 tm 3=.c (.sl J.aj 0 n (.ex n))/\r8 tm 11=.c (.sl b6 o6 n c6)/\r8 tm 12=jN n/\r8 tm 13=jN i
     /\σ4.h J.aj=some ⟨ones n (L9 m bs i (aX m b)),none⟩/\NF NoQ σ4.h b m (λc=>bY (A i c)) 3 69 J'.aj σ4.aj/\gY [J.aj] J' σ4)
    (aG (λq tm σ4=>∃j b,q=m-j/\j<=m/\r8 tm 3=.c (.sl J.aj 0 n (.ex n))/\r8 tm 4=jN i/\r8 tm 11=.c (.sl b6 o6 n c6)/\r8 tm 12=jN n/\r8 tm 13=jN i
     /\r8 tm 18=.c T/\r8 tm 19=jN m/\r8 tm 20=jN j
     /\σ4.h J.aj=some ⟨ones n (L9 m bs i (aX j b)),none⟩/\NF NoQ σ4.h b j (λc=>bY (A i c)) 3 69 J'.aj σ4.aj/\gY [J.aj] J' σ4) m ?_ ?_) ?_
   .refine⟨0,J'.aj,jb,jb,?_⟩
    refine W1 ?_
    exact⟨q3,NF.nil λ_=>rfl,gY.refl hf.wf⟩
   .rintro q YV σ4 ⟨j,b,rfl,hj,t3,t4,t11,t12,t13,qV,t19,t20,q4,hN,hf4⟩
    have qM:=hf4.le
    have hg:=hN.g
    have hl1:=hN.l1
    have hl2:=hN.l2
    have hL:=hN.L
    simp(disch:=try exact jz)only[go_sem,W4,qV,aC]
    refine aH (λaaV=>?_) (λaaV=>?_)
    .obtain⟨b7,o7,c7,e7,-,dB⟩:=aZ.at3 hT aaV
     have aAp:=hW.cZ dB
     have dB:=hf4.ld hf.wf kd (hf.ld hW dB)
     have a7:V.c (.sl b7 o7 m c7)=V.c T:=by rw[e7]
     rw[e7]at qV
     have z1:=hz i j hlt aaV
     have ET:=gY.refl (ex:=[J.aj]) hf4.wf
     have hnl:=hf4.wf.lt q4
     have eT:L9 m bs i (aX j b) i=aX j b:=by unfold L9;rw[ae jb,ab rfl]
     simp(disch:=try exact jz)only[go_sem,W4,qV,dB,aeh,ay q4,q4,eT,hg,aJ q4,am5]
     refine⟨m-(j+1),jb,j+1,σ4.aj+1+1,rfl,jb,a7,rfl,rfl,?_,fe⟩
     refine hN.push (hi1:=σ4.aj) (h1:=σ4.h) (λ_ _=>Nb _) (λ_ _ _ _ h=>h) trivial (λ_ _ _=>rfl) jp jb jb jb ((au _ _ _ _ jb).trans (aA _ _ _)) rfl (λc h1 h2 h3=>?_) (λ_ _=>rfl) (λ_=>rfl)
     grind[au,iJ]
    .have:j=m:=jb
     subst this
     simp(disch:=try exact jz)only[go_sem,am]
     exact⟨b,t3,t11,t12,t13,q4,hN,hf4⟩
   .rintro _ YV σ4 ⟨rfl,b,t3,t11,t12,t13,q4,hN,hf4⟩
    have qM:=hf4.le
    rw[uP hm,aij]at q4
    refine W0 ?_
    have hl1:=hN.l1
    have hl2:=hN.l2
    have hg:σ4.h b=some ⟨dh m (A i),some (3,69)⟩:=by
     have:=hN.g;cases m with
     |zero=>omega
     |succ m=>exact this
    refine⟨n-(i+1),jb,i+1,aO bs i b,rfl,jb,a6,rfl,q4,λk hk=>?_,λk l hk hl e=>?_,gY.to hf hf4 (λb hb=>by simp at hb;omega),jb⟩
    .by_cases e:k=i
     .subst e;rw[aN];exact⟨hg,jb,jb⟩
     .obtain⟨k1,k2,k3⟩:=hr k jb
      rw[aS _ _ _ _ e]
      exact⟨hf4.get hf.wf (by simp<;>omega) k1,k2,jb⟩
    .by_cases e1:k=i<;>by_cases e2:l=i
     .omega
     .exfalso
      rw[e1,aN,aS _ _ _ _ e2]at e
      have:=(hr l jb).2.2;omega
     .exfalso
      rw[e2,aN,aS _ _ _ _ e1]at e
      have:=(hr k jb).2.2;omega
     .rw[aS _ _ _ _ e1,aS _ _ _ _ e2]at e
      exact hinj k l jb jb e
  .have:i=n:=jb
   subst this
   simp(disch:=try exact jz)only[go_sem,t3]
   refine⟨⟨J.aj,bs,rfl,jp,⟨?_,hr,hinj,jb,jb⟩⟩,hf⟩
   rw[q3]
   exact br (λl=>some (Bk.mk l none)) (dF λk hk=>ab hk)
end Go.Proofs.Xe
