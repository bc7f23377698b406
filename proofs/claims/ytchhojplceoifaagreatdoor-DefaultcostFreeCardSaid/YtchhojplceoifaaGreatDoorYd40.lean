import Derived.Test.YtchhojplceoifaaGreatDoorYd39
set_option linter.all false
set_option maxRecDepth 100000
set_option maxHeartbeats 8000000
namespace Go.Proofs.Ins
def FQ(i r:Nat):Nat:=if r<i then r else r+1
def sg1(k:Nat):Rat:=if k%2=0 then 1 else-1
def jF:Nat->(Nat->Nat->Rat)->Rat
 |0,_=>1
 |k+1,A=>aB (k+1) λi=>sg1 (i+k)*A k i*jF k λc r=>A c (FQ i r)
def iM(A:Nat->Nat->Rat)(a:Nat)(u:Nat->Rat)(c r:Nat):Rat:=if c=a then u r else A c r
def ab2{i r k:Nat}(hi:i<k+1)(hr:r<k):FQ i r<k+1:=by grind[FQ]
theorem uU:∀(k:Nat) (A B:Nat->Nat->Rat),(∀c r,c<k->r<k->A c r=B c r)->jF k A=jF k B
 |0,_,_,_=>rfl
 |k+1,A,B,h=>by unfold jF;refine aQ λi hi=>?_;rw[h k i jb hi,uU k (λc r=>A c (FQ i r)) (λc r=>B c (FQ i r)) λc r hc hr=>h c _ jb (ab2 hi hr)]
def BZ:∀(k:Nat) (A:Nat->Nat->Rat) (a:Nat) (u w:Nat->Rat) (s:Rat),a<k->jF k (iM A a λr=>u r+s*w r)=jF k (iM A a u)+s*jF k (iM A a w)
 |0,_,_,_,_,_,h=>jb
 |k+1,A,a,u,w,s,ha=>by
  unfold jF;rw[<-gQ,<-dF];refine aQ λi hi=>?_;by_cases e:a=k
  .subst e;have h:∀u',jF a (λc r=>iM A a u' c (FQ i r))=jF a λc r=>A c (FQ i r):=λu'=>uU a _ _ λc r hc hr=>by unfold iM;rw[ab jb]
   rw[h,h,h];unfold iM;rw[ae rfl,ae rfl,ae rfl];grind
  .have h:∀u',(λc r=>iM A a u' c (FQ i r))=iM (λc r=>A c (FQ i r)) a λr=>u' (FQ i r):=λu'=>by funext c r;unfold iM;split<;>rfl
   have h2:∀u',iM A a u' k i=A k i:=λu'=>by unfold iM;rw[ab jb]
   rw[h,h,h,h2,h2,h2];have:=BZ k (λc r=>A c (FQ i r)) a (λr=>u (FQ i r)) (λr=>w (FQ i r)) s jb;rw[this];grind
theorem Uj(A:Nat->Nat->Rat)(a:Nat):iM A a (A a)=A:=by grind[iM]
def ak4{k:Nat}(halt:∀(A:Nat->Nat->Rat) (a b:Nat),a<b->b<k->(∀r,r<k->A a r=A b r)->jF k A=0)(A:Nat->Nat->Rat){a b:Nat}(hab:a<b)(hb:b<k):
  jF k (iM (iM A a (A b)) b (A a))=-jF k A:=by
 have hne:a≠b:=jb
 have hcomm:∀u v,iM (iM A a u) b v=iM (iM A b v) a u:=λu v=>by grind[iM]
 have h0:=halt (iM (iM A a λr=>A a r+1*A b r) b λr=>A a r+1*A b r) a b hab hb λr _=>by grind[iM]
 have e:∀u v,(∀r,r<k->u r=v r)->jF k (iM (iM A a u) b v)=0:=λu v h=>halt _ a b hab hb λr hr=>by grind[iM]
 rw[BZ k _ b (A a) (A b) 1 hb]at h0
 rw[hcomm _ (A a),hcomm _ (A b),BZ k _ a (A a) (A b) 1 jb,BZ k _ a (A a) (A b) 1 jb]at h0
 grind[Uj]
def ao4{n p:Nat}(hp:p<n+1)(f:Nat->Rat):aB n (λi=>f (FQ p i))=aB (n+1) λq=>if q=p then 0 else f q:=by
 induction n generalizing p with
 |zero=>grind[aB]
 |succ n ih=>
  rw[aB,aB]
  by_cases e:p=n+1
  .grind[aB,aQ,FQ]
  .rw[ih jb,ab (λh=>e h.symm)]
   grind[FQ]
theorem ao5(a b:Nat):sg1 (a+b)=sg1 a*sg1 b:=by grind[sg1]
def LY(p q:Nat):Nat:=if q<p then q else q-1
def ao6{p i:Nat}:LY p (FQ p i)=i:=by grind[FQ,LY]
theorem ao7{p q:Nat}(h:p≠q)(r:Nat):FQ p (FQ (LY p q) r)=FQ q (FQ (LY q p) r):=by grind[LY,FQ]
theorem auo{p q:Nat}(h:p≠q):sg1 p*sg1 (LY p q)=-(sg1 q*sg1 (LY q p)):=by grind[LY,sg1]
theorem ad2(m:Nat)(A:Nat->Nat->Rat)(h:∀r,r<m+2->A m r=A (m+1) r):jF (m+2) A=0:=by
 obtain⟨S,hS⟩:∃S:Nat->Nat->Rat,S=λp q=>if q=p then 0 else sg1 (p+(m+1))*A m p*(sg1 (LY p q+m)*A m q*jF m λc r=>A c (FQ p (FQ (LY p q) r))):=⟨_,rfl⟩
 have h1:jF (m+2) A=aB (m+2) λp=>aB (m+2) λq=>S p q:=by rw[jF];refine aQ λp hp=>?_;rw[jF,<-h p hp,<-gQ];have e:=ao4 (n:=m+1) hp λq=>sg1 (p+(m+1))*A m p*(sg1 (LY p q+m)*A m q*jF m λc r=>A c (FQ p (FQ (LY p q) r)));rw[hS];dsimp only;rw[<-e];exact aQ λi _=>by rw[ao6]
 have h2:∀p q,S p q=-S q p:=λp q=>by grind[ao7,auo,ao5]
 have h3:aB (m+2) (λp=>aB (m+2) λq=>S p q)=-aB (m+2) λp=>aB (m+2) λq=>S p q:=by
  have a:aB (m+2) (λp=>aB (m+2) λq=>S p q)=aB (m+2) λp=>(-1)*aB (m+2) λq=>S q p:=aQ λp _=>by rw[<-gQ];grind
  rw[gQ,<-AY (m+2) (m+2) λp q=>S p q]at a;grind
 grind
theorem Jq:∀(k:Nat) (A:Nat->Nat->Rat) (a b:Nat),a<b->b<k->(∀r,r<k->A a r=A b r)->jF k A=0
 |0,_,_,_,_,h,_=>jb
 |k+1,A,a,b,hab,hb,h=>by
  by_cases e:b=k
  .subst e;obtain⟨m,rfl⟩:∃m,b=m+1:=⟨b-1,jb⟩
   by_cases e2:a=m
   .grind[ad2]
   ·--swap columns a and m
    have hs:=ad2 m (iM (iM A a (A m)) m (A a)) λr hr=>by grind[iM]
    have:jF (m+2) (iM (iM A a (A m)) m (A a))=-jF (m+2) A:=by
     unfold jF;have e3:∀i,jF (m+1) (λc r=>iM (iM A a (A m)) m (A a) c (FQ i r))=-jF (m+1) λc r=>A c (FQ i r):=λi=>by rw[<-ak4 (k:=m+1) (Jq (m+1)) (λc r=>A c (FQ i r)) (a:=a) (b:=m) jb jb];refine uU _ _ _ λc r _ _=>?_;unfold iM;split<;>(try split)<;>rfl
     have e4:∀i,iM (iM A a (A m)) m (A a) (m+1) i=A (m+1) i:=λi=>by unfold iM;rw[ab jb,ab jb]
     rw[show∀x:Rat,-x=(-1)*x by intro x;grind,<-gQ];exact aQ λi _=>by rw[e3,e4];grind
    rw[hs]at this;grind
  .unfold jF;exact bJ λi hi=>by rw[Jq k (λc r=>A c (FQ i r)) a b hab jb λr hr=>h _ (ab2 hi hr)];grind
def ak5{k a:Nat}(A:Nat->Nat->Rat)(ha:a<k):jF k (iM A a λ_=>0)=0:=by have:=BZ k A a (λ_=>0) (λ_=>0) 1 ha;grind
def Qz{k a:Nat}(A:Nat->Nat->Rat)(ha:a<k)(x:Nat->Rat)(B:Nat->Nat->Rat):∀m,jF k (iM A a λr=>aB m λl=>x l*B l r)=aB m λl=>x l*jF k (iM A a (B l))
 |0=>ak5 A ha
 |m+1=>by have:(λr=>aB (m+1) λl=>x l*B l r)=λr=>aB m (λl=>x l*B l r)+x m*B m r:=rfl;rw[this,BZ k A a _ _ _ ha,Qz A ha x B m];rfl
def aup{k i:Nat}(A:Nat->Nat->Rat)(hi:i<k)(x w:Nat->Rat)(h:∀r,r<k->w r=aB k λl=>A l r*x l):jF k (iM A i w)=x i*jF k A:=by
 have e:jF k (iM A i w)=jF k (iM A i λr=>aB k λl=>x l*A l r):=uU k _ _ λc r _ hr=>by grind[iM]
 rw[e,Qz A hi];rw[jC hi λl hl hne=>?_,Uj];have:jF k (iM A i (A l))=0:=by
  rcases Nat.lt_or_gt_of_ne hne with hlt|hlt
  .grind[Jq,iM]
  grind[Jq,iM]
 grind
def ak6{k:Nat}(A:Nat->Nat->Rat)(x:Nat->Rat)(h:∀r,r<k->A k r=aB k λl=>A l r*x l):jF (k+1) A=(A k k-aB k λl=>A l k*x l)*jF k A:=by
 obtain⟨s,hs⟩:∃s,s=A k k-aB k λl=>A l k*x l:=⟨_,rfl⟩
 have e:jF (k+1) A=jF (k+1) (iM A k λr=>aB k (λl=>x l*A l r)+s*(if r=k then 1 else 0)):=uU _ _ _ λc r hc hr=>by grind[iM]
 rw[e,BZ _ _ _ _ _ _ jb,Qz A jb,bJ λl hl=>?_,<-hs]
 .have:jF (k+1) (iM A k λr=>if r=k then 1 else 0)=jF k A:=by
   rw[show jF (k+1) (iM A k λr=>if r=k then 1 else 0)=aB (k+1) λi=>sg1 (i+k)*iM A k (λr=>if r=k then 1 else 0) k i*jF k λc r=>iM A k (λr=>if r=k then 1 else 0) c (FQ i r)from rfl];rw[jC (k:=k) jb λi _ hne=>?_]
   .grind[Go.Proofs.Ins.sg1,Go.Proofs.Ins.iM,Go.Proofs.Ins.uU,Go.Proofs.Ins.FQ]
   grind[iM]
  grind
 grind[Jq,iM]
def Gi(q:Rat):Prop:=∃z:Int,q=(z:Rat)
theorem Gi.add{a b:Rat}(ha:Gi a)(hb:Gi b):Gi (a+b):=by obtain⟨x,rfl⟩:=ha;obtain⟨y,rfl⟩:=hb;exact⟨x+y,by simp⟩
def Gi.mul{a b:Rat}(ha:Gi a)(hb:Gi b):Gi (a*b):=by obtain⟨x,rfl⟩:=ha;obtain⟨y,rfl⟩:=hb;exact⟨x*y,by simp⟩
def Gi.neg{a:Rat}(ha:Gi a):Gi (-a):=by obtain⟨x,rfl⟩:=ha;exact⟨-x,by rfl⟩
def Gi.sub{a b:Rat}(ha:Gi a)(hb:Gi b):Gi (a-b):=by rw[gN];exact ha.add hb.neg
theorem Gi.sum{n:Nat}{f:Nat->Rat}(h:∀i,i<n->Gi (f i)):Gi (aB n f):=by
 induction n with
 |zero=>exact⟨0,rfl⟩
 |succ n ih=>exact(ih λi hi=>h i jb).add (h n jb)
theorem Gi.sg1(k:Nat):Gi (sg1 k):=by unfold Ins.sg1;split;exact⟨1,rfl⟩;exact⟨-1,rfl⟩
def WC:∀(k:Nat) (A:Nat->Nat->Rat),(∀c r,c<k->r<k->Gi (A c r))->Gi (jF k A)
 |0,_,_=>⟨1,rfl⟩
 |k+1,A,h=>by unfold jF;exact .sum λi hi=>((Gi.sg1 _).mul (h k i jb hi)).mul (WC k _ λc r hc hr=>h c _ jb (ab2 hi hr))
structure Bar(n k:Nat)(B W:Nat->Nat->Rat)(p:Rat):Prop where
 int:∀i j,i<n->j<=n->Gi (B i j)
 p0:p≠0
 pd:p=jF k λc r=>B r c
 ex:∃X:Nat->Nat->Rat,(∀r j,r<k->j<=n->B r j=aB k λl=>B r l*X l j)/\(∀l j,l<k->j<k->X l j=if l=j then 1 else 0)/\(∀l j,l<k->j<=n->W l j=p*X l j)/\∀i j,k<=i->i<n->j<=n->W i j=p*(B i j-aB k λl=>B i l*X l j)
def agC{n:Nat}{B:Nat->Nat->Rat}(h:∀i j,i<n->j<=n->Gi (B i j)):Bar n 0 B B 1:=
 ⟨h,jj,rfl,λ_ _=>0,λr j hr=>jb,λl j hl=>jb,λl j hl=>jb,λi j _ _ _=>by rw[aB];grind⟩
def Bar.isZ{n k:Nat}{B W:Nat->Nat->Rat}{p:Rat}(h:Bar n k B W p)(hk:k<=n):Gi p/\∀i j,i<n->j<=n->Gi (W i j):=by
 have hp:Gi p:=by rw[h.pd];exact WC k _ λc r hc hr=>h.int r c jb jb
 obtain⟨X,h1,h2,h3,h4⟩:=h.ex;have h5:∀l j,l<k->j<=n->Gi (p*X l j):=λl j hl hj=>by
  have:=aup (k:=k) (i:=l) (λc r=>B r c) hl (λl=>X l j) (λr=>B r j) λr hr=>h1 r j hr hj;rw[ga,h.pd,<-this];refine WC k _ λc r hc hr=>?_;unfold iM;split
  .exact h.int r j jb hj
  .exact h.int r c jb jb
 refine⟨hp,λi j hi hj=>?_⟩;by_cases hik:i<k
 .grind
 .rw[h4 i j jb hi hj];have:p*(B i j-aB k λl=>B i l*X l j)=p*B i j-aB k λl=>B i l*(p*X l j):=by
   have e:aB k (λl=>B i l*(p*X l j))=p*aB k λl=>B i l*X l j:=by rw[<-gQ];grind
   grind
  rw[this];exact(hp.mul (h.int i j hi hj)).sub (.sum λl hl=>(h.int i l hi jb).mul (h5 l j hl hj))
def KD(W:Nat->Nat->Rat)(k:Nat)(p:Rat)(i j:Nat):Rat:=if i=k then W k j else(W k k*W i j-W i k*W k j)/p
def Bar.swap{n k:Nat}{B W:Nat->Nat->Rat}{p:Rat}(h:Bar n k B W p)(hk:k<n){a:Nat}(ha:k<=a)(han:a<n):Bar n k (λi=>B (swp k a i)) (λi=>W (swp k a i)) p:=by
 obtain⟨X,h1,h2,h3,h4⟩:=h.ex;have hlo:∀i,i<k->swp k a i=i:=λi hi=>by grind[swp]
 have hhi:∀i,k<=i->i<n->k<=swp k a i/\swp k a i<n:=λi hi hin=>by grind[swp]
 refine⟨λi j hi hj=>h.int _ j (pX hk han hi) hj,h.p0,?_,X,λr j hr hj=>?_,h2,λl j hl hj=>?_,λi j hi hin hj=>?_⟩
 .rw[h.pd];exact uU k _ _ λc r _ hr=>by rw[hlo r hr]
 .rw[hlo r hr];exact h1 r j hr hj
 .rw[hlo l hl];exact h3 l j hl hj
 grind
def Bar.step{n k:Nat}{B W:Nat->Nat->Rat}{p:Rat}(h:Bar n k B W p)(hk:k<n)(h0:W k k≠0):Bar n (k+1) B (KD W k p) (W k k):=by
 obtain⟨X,h1,h2,h3,h4⟩:=h.ex;have hp0:=h.p0;obtain⟨R,hR⟩:∃R:Nat->Nat->Rat,R=λi j=>B i j-aB k λl=>B i l*X l j:=⟨_,rfl⟩
 have hRe:∀i j,R i j=B i j-aB k λl=>B i l*X l j:=λi j=>by rw[hR]
 have hW:∀i j,k<=i->i<n->j<=n->W i j=p*R i j:=λi j a b d=>by grind
 have hs:R k k≠0:=λe=>h0 kd;have hWk:=hW k k jp hk jb;obtain⟨Y,hY⟩:∃Y:Nat->Rat,∀j,Y j*R k k=R k j:=⟨λj=>R k j/R k k,λj=>dc hs⟩
 have hpd:W k k=jF (k+1) λc r=>B r c:=by rw[ak6 (λc r=>B r c) (λl=>X l k) λr hr=>h1 r k hr jb,<-h.pd,hWk,hRe,ga]
 have key:∀i j,aB (k+1) (λl=>B i l*(if l=k then Y j else X l j-X l k*Y j))=aB k (λl=>B i l*X l j)+R i k*Y j:=λi j=>by
  rw[aB,ae rfl];have e:aB k (λl=>B i l*(if l=k then Y j else X l j-X l k*Y j))=aB k (λl=>B i l*X l j)-aB k (λl=>B i l*X l k)*Y j:=by rw[<-qV,<-iH];exact aQ λl hl=>by rw[ab jb];grind
  grind
 have hdiv:∀a:Rat,(a*p)/p=a:=λa=>by rw[Rat.div_def,Rat.mul_assoc,Rat.mul_inv_cancel _ hp0,Rat.mul_one]
 refine⟨h.int,h0,hpd,λl j=>if l=k then Y j else X l j-X l k*Y j,λr j hr hj=>?_,λl j hl hj=>?_,λl j hl hj=>?_,λi j hi hin hj=>?_⟩
 .rw[key];by_cases e:r=k
  .subst e;have:=hY j;have:=hRe r j;grind
  .have h5:=h1 r j jb hj;have h6:R r k=0:=by have:=h1 r k jb jb;rw[hRe];grind
   rw[h6];grind
 .dsimp only;by_cases e:l=k
  .rw[ae e];by_cases e2:j=k
   .rw[ae jb];have:=hY k;have e3:Y k=1:=by
     have:(Y k-1)*R k k=0:=by grind
     rcases gP.mp this with e|e
     .grind
     .exact absurd e hs
    rw[e2];exact e3
   .rw[ab jb];have h5:R k j=0:=by rw[hRe,jC (k:=j) jb λl hl hne=>by rw[h2 l j hl jb,ab hne];grind,h2 j j jb jb,ae rfl];grind
    have:=hY j;rw[h5]at this;rcases gP.mp this with e|e
    .exact e
    .exact absurd e hs
  .rw[ab e];by_cases e2:j=k
   .subst e2;have e3:Y j=1:=by
     have:=hY j;have:(Y j-1)*R j j=0:=by grind
     rcases gP.mp this with e|e
     .grind
     .exact absurd e hs
    rw[e3,ab e];grind
   .have h5:R k j=0:=by rw[hRe,jC (k:=j) jb λl hl hne=>by rw[h2 l j hl jb,ab hne];grind,h2 j j jb jb,ae rfl];grind
    have e4:Y j=0:=by
     have:=hY j;rw[h5]at this;rcases gP.mp this with e|e
     .exact e
     .exact absurd e hs
    rw[e4,h2 l j jb jb];grind
 .unfold KD;dsimp only;by_cases e:l=k
  .subst e;rw[ae rfl,ae rfl,hWk,hW l j jp hk hj,<-hY j];grind
  .rw[ab e,ab e,hWk,hW k j jp hk hj,h3 l j jb hj,h3 l k jb jb,<-hY j];have:p*R k k*(p*X l j)-p*X l k*(p*(Y j*R k k))=(p*R k k*(X l j-X l k*Y j))*p:=by grind
   rw[this,hdiv]
 grind[KD]
def Bar.pivot{n k:Nat}{B W:Nat->Nat->Rat}{p:Rat}(h:Bar n k B W p)(hk:k<n)(hinj:∀z:Nat->Rat,(∀i,i<n->aB n (λj=>B i j*z j)=0)->∀j,j<n->z j=0):∃i,k<=i/\i<n/\W i k≠0:=by
 refine bw λhno=>?_;obtain⟨X,h1,h2,h3,h4⟩:=h.ex;have hz:∀i,i<n->aB n (λj=>B i j*(if j=k then 1 else if j<k then-X j k else 0))=0:=λi hi=>by
  have e:aB n (λj=>B i j*(if j=k then 1 else if j<k then-X j k else 0))=B i k-aB k λl=>B i l*X l k:=by
   have e1:∀m,m<=n-k-1->aB (k+1+m) (λj=>B i j*(if j=k then 1 else if j<k then-X j k else 0))=B i k-aB k λl=>B i l*X l k:=by
    intro m;induction m with
    |zero=>
     intro _
     rw[cA,aB,ae rfl]
     have:aB k (λj=>B i j*(if j=k then 1 else if j<k then-X j k else 0))=(-1)*aB k λl=>B i l*X l k:=by rw[<-gQ];exact aQ λj hj=>by rw[ab jb,ae hj];grind
     rw[this];grind
    |succ m ih=>
     intro hm
     rw[<-Nat.add_assoc,aB,ih jb,ab jb,ab jb];grind
   have:=e1 (n-k-1) jp;grind
  rw[e];by_cases hik:i<k
  .have:=h1 i k hik jb;grind
  .have h5:W i k=0:=bw λhne=>hno ⟨i,jb,hi,hne⟩;rw[h4 i k jb hi jb]at h5;rcases gP.mp h5 with e|e
   .exact absurd e h.p0
   .exact e
 have:=hinj _ hz k hk;grind
def Bar.done{n:Nat}{B W:Nat->Nat->Rat}{p:Rat}(h:Bar n n B W p):(∀i,i<n->W i i≠0)/\∀i,i<n->aB n (λl=>B i l*(W l n/W l l))=B i n:=by
 obtain⟨X,h1,h2,h3,h4⟩:=h.ex;have hd:∀l,l<n->W l l=p:=λl hl=>by grind
 refine⟨λi hi=>by rw[hd i hi];exact h.p0,λi hi=>?_⟩;rw[h1 i n hi jp];refine aQ λl hl=>?_;rw[hd l hl,h3 l n hl jp];congr 1;rw[ga,Rat.div_def,Rat.mul_assoc,Rat.mul_inv_cancel _ h.p0,Rat.mul_one]
end Go.Proofs.Ins
namespace Go.Proofs.Xe
open Go.RowKit Go.Proofs.Ins
def mF(b:Nat)(q:Rat):Prop:=∃(z:Int) (Q:Nat),0<Q/\Q<=2^b/\z.natAbs<=2^b/\q=(z:Rat)/(Q:Rat)
def ad3{b:Nat}:2^b<256^(b/8+1):=by have e:(2:Nat)^(8*(b/8+1))=(2^8)^(b/8+1):=Nat.pow_mul 2 8 _;have e2:(2:Nat)^8=256:=rfl;rw[e2]at e;rw[<-e];exact Nat.pow_lt_pow_right jj jb
theorem zN{a b:Nat}(h:a<=b):2^a<=2^b:=bA jj h
def pY{a b x y:Nat}(h:x<=2^a)(h':y<=2^b):x*y<=2^(a+b):=by simp_all[ec,cG]
def mF.sz{b:Nat}{q:Rat}(h:mF b q)(hb:b<=200000000):Sz q:=by obtain⟨z,Q,h1,h2,h3,rfl⟩:=h;have a:Sm (b/8+1) (z:Rat):=Sm.int jb (cT h3 ad3);have c:Sm (b/8+1) ((Q:Int):Rat):=Sm.int jb (cT jb ad3);exact(a.div c (iI h1)).mono (by unfold szK;omega)
def mF.mono{a b:Nat}{q:Rat}(h:mF a q)(hab:a<=b):mF b q:=by obtain⟨z,Q,h1,h2,h3,e⟩:=h;exact⟨z,Q,h1,ap h2 (zN hab),ap h3 (zN hab),e⟩
def mF.int{b:Nat}{z:Int}(h:z.natAbs<=2^b):mF b (z:Rat):=⟨z,1,jj,gT,h,by grind⟩
def mF.mul{a b:Nat}{p q:Rat}(h:mF a p)(h':mF b q):mF (a+b) (p*q):=by obtain⟨z,Q,h1,h2,h3,rfl⟩:=h;obtain⟨y,R,k1,k2,k3,rfl⟩:=h';refine⟨z*y,Q*R,cf h1 k1,by simp_all[ec,cG],by simp_all[fg,ec,cG],?_⟩;grind
def mF.neg{a:Nat}{p:Rat}(h:mF a p):mF a (-p):=by obtain⟨z,Q,h1,h2,h3,rfl⟩:=h;refine⟨-z,Q,h1,h2,jb,?_⟩;grind
def ab3{s:Int}(h:s=1\/s=-1):(s:Rat)*(s:Rat)=1:=by rw[<-cY];rcases h with rfl|rfl<;>rfl
def axV{s:Rat}(h:s*s=1):s≠0:=λe=>by grind
def WE(z:Int):∃s:Int,(s=1\/s=-1)/\((z.natAbs:Nat):Rat)=(s:Rat)*(z:Rat):=by
 have key:∀w:Int,(z.natAbs:Int)=w->((z.natAbs:Nat):Rat)=(w:Rat):=λw h=>by
  have:(((z.natAbs:Nat):Int):Rat)=(w:Rat):=by rw[h]
  exact this
 rcases Int.le_total 0 z with h0|h0
 .grind
 .refine⟨-1,.inr rfl,?_⟩;rw[key (-z) jb,Rat.intCast_neg];grind
def mF.div{a b:Nat}{p q:Rat}(h:mF a p)(h':mF b q)(h0:q≠0):mF (a+b) (p/q):=by
 obtain⟨z,Q,h1,h2,h3,rfl⟩:=h;obtain⟨y,R,k1,k2,k3,rfl⟩:=h';have hy:y≠0:=λe=>h0 (by rw[e];grind);obtain⟨s,hs,es⟩:=WE y;have hyr:(y:Rat)≠0:=λe=>hy (eV.mp e);have hss:=ab3 hs;refine⟨s*(z*R),Q*y.natAbs,cf h1 jb,by simp_all[ec,cG],?_,?_⟩
 .have e:(s*(z*R)).natAbs=z.natAbs*R:=by grind[Int.natAbs_mul]
  simp_all[ec,cG]
 .have a1:=iI h1;have a2:=iI k1;rw[cY,cY,eQ,es];have e2:(((R:Nat):Int):Rat)=(R:Rat):=rfl;grind
def Es(rows m a:Nat)(A:Nat->Nat->Rat):Prop:=∃Q:Nat,0<Q/\Q<=2^a/\∀i k,i<rows->k<m->∃z:Int,A i k=(z:Rat)/(Q:Rat)/\z.natAbs<=2^a
section
variable {rows m a b r p c:Nat} {A:Nat→Nat→Rat}
def Es.rat(h:Es rows m a A){i k:Nat}(hi:i<rows)(hk:k<m):mF a (A i k):=by obtain⟨Q,h1,h2,h3⟩:=h;obtain⟨z,e,hz⟩:=h3 i k hi hk;exact⟨z,Q,h1,h2,hz,e⟩
def Es.mono(h:Es rows m a A)(hab:a<=b):Es rows m b A:=by obtain⟨Q,h1,h2,h3⟩:=h;refine⟨Q,h1,ap h2 (zN hab),λi k hi hk=>?_⟩;grind[Nat.le_trans,zN]
theorem Es.elim(h:Es rows m a A)(hr:r<rows)(hp:p<rows)(hc:c<m)(h0:A p c≠0):Es rows m (2*a+1) (elim A r p c):=by
 obtain⟨Q,h1,h2,h3⟩:=h;obtain⟨P,eP,hP⟩:=h3 p c hp hc;have hP0:P≠0:=λe=>h0 (by rw[eP,e];grind);obtain⟨s,hs,es⟩:=WE P;have hPr:(P:Rat)≠0:=λe=>hP0 (eV.mp e);have hss:=ab3 hs;have a1:=iI h1;have e2:(2:Nat)^(2*a+1)=2^a*2^a+2^a*2^a:=by rw[dx,Nat.two_mul a,ec];omega
 have hQP:Q*P.natAbs<=2^a*2^a:=cG h2 hP;have hab:∀x:Int,(s*x).natAbs=x.natAbs:=λx=>by grind
 refine⟨Q*P.natAbs,cf h1 jb,jb,λi k hi hk=>?_⟩;obtain⟨z,ez,hz⟩:=h3 p k hp hk;unfold Ins.elim;have hs0:=axV hss;by_cases e:i=r
 .rw[ae e];refine⟨s*(z*Q),?_,?_⟩
  .rw[ez,eP,cY,cY,eQ,es];have e3:(((Q:Nat):Int):Rat)=(Q:Rat):=rfl;grind
  .rw[hab,fg,hJ];have:=cG hz h2;omega
 .rw[ab e];obtain⟨y,ey,hy⟩:=h3 _ k (pX hr hp hi) hk;obtain⟨w,ew,hw⟩:=h3 _ c (pX hr hp hi) hc;refine⟨s*(y*P-w*z),?_,?_⟩
  .rw[ey,ew,ez,eP,cY,Rat.intCast_sub,cY,cY,eQ,es];generalize (s:Rat)=s at*;generalize (P:Rat)=P at*;grind
  .rw[hab];have k1:=cG hy hP;have k2:=cG hw hz;have k3:(y*P-w*z).natAbs<=(y*P).natAbs+(w*z).natAbs:=jb;rw[fg,fg]at k3;omega
def LZ(a:Nat):Nat->Nat
 |0=>a
 |c+1=>2*LZ a c+1
def Bj(a:Nat){c:Nat}:∀{d:Nat},c<=d->LZ a c<=LZ a d
 |0,h=>by grind
 |d+1,h=>by
  rcases fw c (d+1)with h2|h2
  .have:=Bj a (c:=c) (d:=d) jb;show _<=2*LZ a d+1;omega
  grind
def ak7(a:Nat):∀c,a<=LZ a c:=λc=>Bj a (bp c)
def Uk(h:Es rows m a A):∀{c:Nat},c<=m->Es rows m (LZ a c) (ech rows A c).1
 |0,_=>h
 |c+1,hc=>by
  have ih:=Uk h (c:=c) jb;show Es rows m (2*LZ a c+1) (RH rows (ech rows A c).1 (ech rows A c).2 c).1;generalize (ech rows A c).1=A' at*;generalize (ech rows A c).2=P;unfold RH;split
  .split
   .next h1 h2=>
    obtain⟨-,-,h3⟩:=Fv A' c (rows-P.length) P.length;exact ih.elim h1 h2 jb (h3 jb)
   .exact ih.mono jb
  .exact ih.mono jb
def ab4(rows:Nat)(A:Nat->Nat->Rat)(P:List Nat)(c:Nat)(q:Rat):Rat:=
 if P.length<rows then
  (if P.length+vV A c P.length (rows-P.length)<rows then(if vV A c P.length (rows-P.length)=0 then q else-q)*A (P.length+vV A c P.length (rows-P.length)) c else q)
 else q
def xC(rows:Nat)(A:Nat->Nat->Rat):Nat->Rat
 |0=>1
 |c+1=>ab4 rows (ech rows A c).1 (ech rows A c).2 c (xC rows A c)
def ab5(h:Es rows m a A):∀{c:Nat},c<=m->mF (LZ a c) (xC rows A c)
 |0,_=>mF.int (z:=1) (gT)
 |c+1,hc=>by
  have ih:=ab5 h (c:=c) jb;have hA:=Uk h (c:=c) jb;show mF (2*LZ a c+1) (ab4 rows (ech rows A c).1 (ech rows A c).2 c (xC rows A c));generalize (ech rows A c).1=A' at*;generalize (ech rows A c).2=P;unfold ab4;split
  .split
   .next h1 h2=>
    refine mF.mono (mF.mul (a:=LZ a c) ?_ (hA.rat h2 jb)) jb;split
    .exact ih
    .exact ih.neg
   .exact ih.mono jb
  .exact ih.mono jb
end
def iv(s:Bool)(u:Nat):Int:=if s=true then-(u:Int)else(u:Int)
theorem Ak(s:Bool)(u:Nat):(iv s u).natAbs=u:=by cases s<;>simp[iv]
def ak8(s:Bool){u:Nat}:iv s u=0↔u=0:=by cases s<;>simp[iv]
def ak9(s t:Bool)(u v:Nat):iv (false==(s==t)) (u*v)=iv s u*iv t v:=by cases s<;>cases t<;>simp[iv]<;>grind
def ao8{s t:Bool}(h:s≠t)(u v:Nat):iv s (u+v)=iv s u-iv t v:=by cases s<;>cases t<;>simp_all [iv]<;>omega
def ad4(s:Bool){u v:Nat}(h:v<=u):iv s (u-v)=iv s u-iv s v:=by cases s<;>simp[iv]<;>omega
def ao9(s:Bool){u v:Nat}(h:¬v<=u):iv (!s) (v-u)=iv s u-iv s v:=by cases s<;>simp[iv]<;>omega
def auq{s t:Bool}{u v:Nat}{q:Int}(h:iv s u=q*iv t v)(hv:v≠0):iv (false==(s==t)) (u/v)=q:=by
 have ha:u=q.natAbs*v:=by have:=bN Int.natAbs h;rwa[Ak,fg,Ak]at this
 have hq:u/v=q.natAbs:=by rw[ha];exact Nat.mul_div_cancel _ jb
 rw[hq];have h2:iv (false==(s==t)) q.natAbs*(v:Int)=q*(v:Int):=by
  have e:(u:Int)=(q.natAbs:Int)*(v:Int):=by rw[ha,eA]
  cases s<;>cases t<;>simp[iv]at h⊢ <;>grind
 exact Int.eq_of_mul_eq_mul_right jb h2
def QS(n:Nat)(s:Nat->Bool)(u:Nat->Nat):List B:=bC n λi=>[.bool (s i),.str (bn (u i))]
def z2:[B.bool false,s0]=[.bool false,.str (bn 0)]:=rfl
def apa(n:Nat):rep [.bool false,.str (bn 0)] n=QS n (λ_=>false) λ_=>0:=MH _ n
def aur(n:Nat)(s:Nat->Bool)(u:Nat->Nat)(i:Nat)(h:i<n):zO (QS n s u) (i*2) 2 true=some (.agg [.bool (s i),.str (bn (u i))]):=by unfold QS;have:=zX (e:=2) (k:=0) (m:=2) (G:=λi=>[B.bool (s i),.str (bn (u i))]) true (λ_=>rfl) h jj jj;rw[cA]at this;rw[this];rfl
def apb(n:Nat)(s:Nat->Bool)(u:Nat->Nat)(i:Nat)(h:i<n):zO (QS n s u) (i*2) 1 false=some (.c (.bool (s i))):=by unfold QS;have:=zX (e:=2) (k:=0) (m:=1) (G:=λi=>[B.bool (s i),.str (bn (u i))]) false (λ_=>rfl) h jj jj;rw[cA]at this;rw[this];rfl
def apc(n:Nat)(s:Nat->Bool)(u:Nat->Nat)(i:Nat)(h:i<n):zO (QS n s u) (i*2+1) 1 false=some (.c (.str (bn (u i)))):=by unfold QS;have:=zX (e:=2) (k:=1) (m:=1) (G:=λi=>[B.bool (s i),.str (bn (u i))]) false (λ_=>rfl) h jj jj;rw[this];rfl
def aus(n:Nat)(s:Nat->Bool)(u:Nat->Nat)(i:Nat)(t:Bool)(v:Nat)(h:i<n):yN (QS n s u) (i*2) [.bool t,.str (bn v)]=some (QS n (aN s i t) (aN u i v)):=by unfold QS;have:=x9 (e:=2) (k:=0) (vs:=[.bool t,.str (bn v)]) (G:=λi=>[B.bool (s i),.str (bn (u i))]) (λ_=>rfl) h (cM 2);rw[cA]at this;rw[this];show some _=some _;congr 1;refine bH λj _=>?_;grind[iP,aN]
theorem Bl{n:Nat}{s t:Nat->Bool}{u v:Nat->Nat}(h:∀i,i<n->s i=t i/\u i=v i):QS n s u=QS n t v:=bH λi hi=>by grind
def axW:(false==(true==true))=false:=rfl
def axX:(false==(false==false))=false:=rfl
def axY:(false==(true==false))=true:=rfl
def axZ:(false==(false==true))=true:=rfl
attribute [go_sem] z2 apa aur apb apc aus axW axX axY axZ
def aut{q:Rat}(h:q.den=1):rd q=⟨#[]⟩:=ae h
def auu{q:Rat}(h:q.den≠1):rd q=bn q.den:=ab h
def ala{n:Nat}(h:0<n):decide (bn n=⟨#[]⟩)=false:=az λe=>by grind[C9]
def nX{b u:Nat}(h:u<=2^b)(hb:b<=400000000):ET u:=by have:=og (cT h ad3);unfold ET;omega
def ad5{σ:St}(hW:WF σ)(q:Rat):aC EN 219 [.agg [.bool (rn q),.str (rs q),.str (rd q)]] σ λr σ'=>r=.c (.str (bn q.den))/\Fr σ σ':=by
 refine aP (oJ.o _ _) oJ.h ?_;unfold oJ;dsimp only;have hFr:=Fr.refl hW;by_cases h:q.den=1
 .have e:=aut h;simp(disch:=try exact jz) only[go_sem,z3,e,gm];exact⟨by rw[h],fr⟩
 .have e:=auu h;have hp:=q.den_pos;simp(disch:=try exact jz) only[go_sem,z3,e,ala hp];exact fr
def Zw{σ:St}(hW:WF σ)(s t:Bool){u v:Nat}(hu:ET u)(hv:ET v):aC EN 220 [.agg [.bool s,.str (bn u)],.agg [.bool t,.str (bn v)]] σ λr σ'=>r=.agg [.bool (false==(s==t)),.str (bn (u*v))]/\Fr σ σ':=by refine aP (ng.o _ _) ng.h ?_;unfold ng;dsimp only;have hFr:=Fr.refl hW;simp(disch:=try exact jz) only[go_sem,z3];exact fr
def alb{σ:St}(hW:WF σ)(s t:Bool){u v:Nat}(hu:ET u)(hv:ET v):aC EN 221 [.agg [.bool s,.str (bn u)],.agg [.bool t,.str (bn v)]] σ λr σ'=>(∃w x,r=.agg [.bool w,.str (bn x)]/\iv w x=iv s u-iv t v)/\Fr σ σ':=by
 refine aP (ni.o _ _) ni.h ?_;unfold ni;dsimp only;have hFr:=Fr.refl hW;by_cases hst:s=t
 .subst hst;have e0:(false==(s==s))=false:=by simp
  by_cases h:v<=u
  .have:=ad4 s h;simp(disch:=try exact jz) only[go_sem,z3,e0,h,if_true,if_false];exact⟨⟨_,_,rfl,ad4 s h⟩,fr⟩
  .have h2:u<=v:=jb;simp(disch:=try exact jz) only[go_sem,z3,e0,h,h2,if_true,if_false];exact⟨⟨_,_,rfl,ao9 s h⟩,fr⟩
 .have e0:(false==(s==t))=true:=by grind
  simp(disch:=try exact jz) only[go_sem,z3,e0];exact⟨⟨_,_,rfl,ao8 hst u v⟩,fr⟩
def ape{σ:St}(hW:WF σ)(s t:Bool){u v:Nat}(hu:ET u)(hv:ET v)(h0:0<v):aC EN 222 [.agg [.bool s,.str (bn u)],.agg [.bool t,.str (bn v)]] σ λr σ'=>r=.agg [.bool (false==(s==t)),.str (bn (u/v))]/\Fr σ σ':=by refine aP (nT.o _ _) nT.h ?_;unfold nT;dsimp only;have hFr:=Fr.refl hW;simp(disch:=try exact jz) only[go_sem,z3];exact fr
def Ul{q:Rat}{z:Int}{Q:Nat}(hQ:0<Q)(h:q=(z:Rat)/(Q:Rat)):q.den∣Q/\q.num.natAbs<=z.natAbs:=by
 have e:q=Ins.fr (!(decide (z<0)==decide ((Q:Int)<0))) z.natAbs (Q:Int).natAbs:=by rw[OG z Q jb];exact h
 rw[hJ]at e;obtain⟨h1,h2⟩:=aad (n:=!(decide (z<0)==decide ((Q:Int)<0))) (x:=z.natAbs) hQ;rw[<-e]at h1 h2;exact⟨by grind[Nat.div_dvd_of_dvd,Nat.gcd_dvd_right],by simp_all[oh,fv]⟩
def auv(q:Rat){c:Nat}(h:q.den∣c):((iv (rn q) (q.num.natAbs*(c/q.den)):Int):Rat)=(c:Rat)*q:=by
 obtain⟨k,rfl⟩:=h;have hd:=q.den_pos;rw[Nat.mul_div_cancel_left _ hd];have e1:iv (rn q) (q.num.natAbs*k)=q.num*k:=by grind[iv,rn]
 have e2:(q.num:Rat)=q*(q.den:Rat):=by grind[iI,Rat.mkRat_self,Rat.mkRat_eq_div]
 have e3:((k:Int):Rat)=(k:Rat):=rfl;rw[e1,cY,e2,eQ,e3];grind
theorem ab6(c d:Nat):c*(d/Nat.gcd c d)=Nat.lcm c d:=by simp_all[Nat.lcm,Nat.mul_div_assoc,Nat.gcd_dvd_right]
def apf(s:Nat->Bool)(j k:Nat):Bool:=if k<j then s k else false
def apg(u:Nat->Nat)(j k:Nat):Nat:=if k<j then u k else 0
def alc{m j:Nat}{s:Nat->Bool}{u:Nat->Nat}:QS m (aN (apf s j) j (s j)) (aN (apg u j) j (u j))=QS m (apf s (j+1)) (apg u (j+1)):=Bl λk _=>by grind[aN,apf,apg]
def ab7{σ:St}(hW:WF σ){p:Nat->Prop}{v:B}{m:Nat}{r:Nat->Rat}(hr:jK p σ.h v m r)(hm:m<=17){Q b:Nat}(hQ:0<Q)(hQb:Q<=2^b)(hb:b<=50000000)(hz:∀k,k<m->∃z:Int,r k=(z:Rat)/(Q:Rat)/\z.natAbs<=2^b):
  aC EN 192 [.c v] σ λx σ'=>(∃nb c,x=.c (.sl nb 0 m (.ex m))/\σ'.h nb=some ⟨QS m (λk=>rn (r k)) (λk=>(r k).num.natAbs*(c/(r k).den)),none⟩/\σ.aj<=nb/\nb<σ'.aj/\0<c/\c∣Q/\∀k,k<m->(r k).den∣c)/\Fr σ σ':=by
 refine aP (sJ.o _ _) sJ.h ?_
 unfold sJ
 dsimp only
 have hFr:=Fr.refl hW
 have hlen:=aX.len hr
 simp(disch:=try exact jz) only[go_sem,z3,hlen]
 refine bM.mono (Q:=λex tm σ1=>ex=.exit 0/\∃c,Tr.ah tm 0=.c v/\Tr.ah tm 3=.c (.str (bn c))/\0<c/\c∣Q/\(∀k,k<m->(r k).den∣c)/\Fr σ σ1)
  (aF (λq tm σ1=>∃j c,q=m-j/\j<=m/\Tr.ah tm 0=.c v/\Tr.ah tm 3=.c (.str (bn c))/\Tr.ah tm 17=.c v/\Tr.ah tm 18=.c (.int .i64 (.ofNat m))/\Tr.ah tm 19=.c (.int .i64 (.ofNat j))/\0<c/\c∣Q/\(∀k,k<j->(r k).den∣c)/\Fr σ σ1) m ?_ ?_) ?_
 .refine⟨0,1,jb,jb,?_⟩
  simp(disch:=try exact jz) only[go_sem,z3,am]
  exact⟨jj,Nat.one_dvd _,λk h=>absurd h jb,fr⟩
 .rintro q tm σ1 ⟨j,c,rfl,hj,t0,t3,t17,qc,t19,hc,hcQ,hcd,hf⟩
  have lK:=Fr.refl hf.wf
  simp(disch:=try exact jz) only[go_sem,z3,t0,t3,t17,qc,t19,aG]
  refine aH (λhlt=>?_) (λhlt=>?_)
  .obtain⟨b7,o7,c7,e7,-,dA⟩:=aX.at3 hr hlt
   have dA:=hf.ld hW dA
   have a7:V.c (.sl b7 o7 m c7)=V.c v:=by rw[e7]
   rw[e7]at t17
   obtain⟨z,ez,hz1⟩:=hz j hlt
   obtain⟨hd,hnum⟩:=Ul hQ ez
   have hdp:=(r j).den_pos
   have zc:ET c:=nX (ap (gH hQ hcQ) hQb) jb
   have zd:ET (r j).den:=nX (ap (gH hQ hd) hQb) jb
   simp(disch:=try exact jz) only[go_sem,z3,t0,t3,t17,qc,t19,dA]
   refine aC.st (Fr σ1) (fr) λhF=>?_
   refine(ad5 hF.wf (r j)).mono ?_
   rintro _ σ2 ⟨rfl,hf2⟩
   have hF2:=(hf.trans hF).trans hf2
   have hgp:0<Nat.gcd c (r j).den:=Nat.gcd_pos_of_pos_left _ hc
   have zg:ET (Nat.gcd c (r j).den):=nX (ap (ap (Nat.gcd_le_left _ hc) (gH hQ hcQ)) hQb) jb
   have zq:ET ((r j).den/Nat.gcd c (r j).den):=nX (ap (ap (fv _ _) (gH hQ hd)) hQb) jb
   simp(disch:=try exact jz) only[go_sem,z3,t0,t3,t17,qc,t19]
   refine⟨m-(j+1),jb,j+1,_,rfl,jb,rfl,a7,rfl,?_,?_,λk hk=>?_,hF2⟩
   .grind[ab6,Nat.lcm_pos]
   .grind[ab6,Nat.lcm_dvd]
   grind[ab6,Nat.dvd_lcm_right]
  .have:j=m:=jb
   subst this
   simp(disch:=try exact jz) only[go_sem,z3,am]
   grind
 .rintro _ tm σ1 ⟨rfl,c,t0,t3,hc,hcQ,hcd,hf1⟩
  have abE:=Fr.refl hf1.wf
  have hle1:=hf1.le
  have zc:ET c:=nX (ap (gH hQ hcQ) hQb) jb
  simp(disch:=try exact jz) only[go_sem,z3,t0,t3,hlen]
  refine aF (λq tm σ2=>∃j,q=m-j/\j<=m/\Tr.ah tm 3=.c (.str (bn c))/\Tr.ah tm 10=.c (.sl σ1.aj 0 m (.ex m))/\Tr.ah tm 41=.c v/\Tr.ah tm 42=.c (.int .i64 (.ofNat m))/\Tr.ah tm 43=.c (.int .i64 (.ofNat j))
   /\σ2.h σ1.aj=some ⟨QS m (apf (λk=>rn (r k)) j) (apg (λk=>(r k).num.natAbs*(c/(r k).den)) j),none⟩/\Fr σ1 σ2/\σ1.aj+1<=σ2.aj) m ?_ ?_
  .refine⟨0,jb,jb,?_⟩
   simp(disch:=try exact jz) only[go_sem,z3,am,t3]
   exact⟨bN (λl=>some (Bk.mk l none)) (Bl λk _=>⟨(ab jb).symm,(ab jb).symm⟩),fr,jb⟩
  .rintro q tm σ2 ⟨j,rfl,hj,t3,t10,t41,t42,t43,q10,hf2,hnx⟩
   have V7:=Fr.refl hf2.wf
   have hle2:=hf2.le
   simp(disch:=try exact jz) only[go_sem,z3,t3,t10,t41,t42,t43,aG]
   refine aH (λhlt=>?_) (λhlt=>?_)
   .obtain⟨b7,o7,c7,e7,-,dA⟩:=aX.at3 hr hlt
    have dA:=(hf1.trans hf2).ld hW dA
    have a7:V.c (.sl b7 o7 m c7)=V.c v:=by rw[e7]
    rw[e7]at t41
    obtain⟨z,ez,hz1⟩:=hz j hlt
    obtain⟨hd,hnum⟩:=Ul hQ ez
    have hdp:=(r j).den_pos
    have zd:ET (r j).den:=nX (ap (gH hQ hd) hQb) jb
    have zn:ET (r j).num.natAbs:=nX (ap hnum hz1) jb
    have zq:ET (c/(r j).den):=nX (ap (ap (fv _ _) (gH hQ hcQ)) hQb) jb
    simp(disch:=try exact jz) only[go_sem,z3,t3,t10,t41,t42,t43,dA]
    refine aC.st (Fr σ2) (fr) λhF=>?_
    refine(ad5 hF.wf (r j)).mono ?_
    rintro _ σ3 ⟨rfl,hf3⟩
    have ax0:=hf3.get hF.wf (hF.get hf2.wf q10)
    have q12:σ3.h σ2.aj=some ⟨[.bool (rn (r j)),.str (rs (r j)),.str (rd (r j))],none⟩:=hf3.get hF.wf (aA _ _ _)
    have hle3:σ2.aj+1<=σ3.aj:=hf3.le
    have hrs:rs (r j)=bn (r j).num.natAbs:=rfl
    have hF3:=(hf2.trans hF).trans hf3
    have hst:=alc (m:=m) (j:=j) (s:=λk=>rn (r k)) (u:=λk=>(r k).num.natAbs*(c/(r k).den))
    simp(disch:=try exact jz) only[go_sem,z3,t3,t10,t41,t42,t43,au q12,q12,hrs,ax0,aI ax0,hst]
    exact⟨m-(j+1),jb,j+1,rfl,jb,a7,rfl,rfl,fr,jb⟩
   .have:j=m:=jb
    subst this
    simp(disch:=try exact jz) only[go_sem,z3,t10]
    refine⟨⟨_,c,rfl,?_,jb,jb,hc,hcQ,hcd⟩,hf1.trans hf2⟩
    rw[q10]
    exact bN (λl=>some (Bk.mk l none)) (Bl λk hk=>⟨ae hk,ae hk⟩)
structure Bo(h:Tr Bk)(mb n m:Nat)(A:Nat->Nat->Rat)(bs:Nat->Nat)(lo hi:Nat):Prop where
 o:h mb=some ⟨ones n λi=>.sl (bs i) 0 m .opn,none⟩
 r:∀i,i<n->h (bs i)=some ⟨cO m (A i),some (3,50)⟩/\lo<=bs i/\bs i<hi
 inj:∀i j,i<n->j<n->bs i=bs j->i=j
 b:mb<lo
 l:lo<=hi
def Bo.rows{h:Tr Bk}{mb n m lo hi:Nat}{A:Nat->Nat->Rat}{bs:Nat->Nat}(hM:Bo h mb n m A bs lo hi){p:Nat->Prop}(hp:∀b,b=mb\/lo<=b/\b<hi->p b):dO p h (.sl mb 0 n (.ex n)) n (λ_=>m) A:=
 ⟨λi=>.sl (bs i) 0 m .opn,bD _ hM.o rfl (hp _ (.inl rfl)) (λ_=>rfl) jj (λ_ _=>rfl),λi hi=>bD _ (hM.r i hi).1 (CB _ _ jj) (hp _ (.inr (hM.r i hi).2)) (λ_=>rfl) jj λ_ _=>rfl⟩
def KE(m:Nat)(bs:Nat->Nat)(i:Nat)(v:B)(k:Nat):B:=if k<i then .sl (bs k) 0 m .opn else if k=i then v else .aO
def auw{n m:Nat}{bs:Nat->Nat}:ones n (λ_=>B.aO)=ones n (KE m bs 0 .aO):=dB λk _=>by grind[KE]
def ald{n m i:Nat}{bs:Nat->Nat}(v w:B):ones n (aN (KE m bs i v) i w)=ones n (KE m bs i w):=dB λk _=>by grind[aN,KE]
def agD{n m i b:Nat}{bs:Nat->Nat}:ones n (KE m bs i (.sl b 0 m .opn))=ones n (KE m (aN bs i b) (i+1) .aO):=dB λk _=>by grind[KE,aN]
def QA{σ:St}(hW:WF σ){p:Nat->Prop}{v:B}{n m:Nat}{A:Nat->Nat->Rat}(hA:dO p σ.h v n (λ_=>m) A)(hn2:n<=16)(hm:0<m)(hm2:m<=17)(hz:∀i k,i<n->k<m->Sz (A i k)):
  aC EN 191 [.c v] σ λr σ'=>(∃mb bs,r=.c (.sl mb 0 n (.ex n))/\σ.aj<=mb/\Bo σ'.h mb n m A bs (mb+1) σ'.aj)/\Fr σ σ':=by
 refine aP (yw.o _ _) yw.h ?_
 unfold yw
 dsimp only
 have hFr:=Fr.refl hW
 have hlen:=hA.len
 simp(disch:=try exact jz) only[go_sem,z3,hlen]
 refine aF (λq tm σ'=>∃i bs,q=n-i/\i<=n/\Tr.ah tm 3=.c (.sl σ.aj 0 n (.ex n))/\Tr.ah tm 11=.c v/\Tr.ah tm 12=.c (.int .i64 (.ofNat n))/\Tr.ah tm 13=.c (.int .i64 (.ofNat i))
  /\σ'.h σ.aj=some ⟨ones n (KE m bs i .aO),none⟩/\(∀k,k<i->σ'.h (bs k)=some ⟨cO m (A k),some (3,50)⟩/\σ.aj+1<=bs k/\bs k<σ'.aj)/\(∀k l,k<i->l<i->bs k=bs l->k=l)/\Fr σ σ'/\σ.aj+1<=σ'.aj) n ?_ ?_
 .refine⟨0,λ_=>0,jb,jb,?_⟩
  simp(disch:=try exact jz) only[go_sem,z3,am]
  exact⟨bN (λl=>some (Bk.mk l none)) auw,λk h=>absurd h jb,λk l h=>absurd h jb,fr,jb⟩
 .rintro q tm σ' ⟨i,bs,rfl,hi,t3,t11,t12,t13,q3,hr,hinj,hf,hnx⟩
  have hle:=hf.le
  simp(disch:=try exact jz) only[go_sem,z3,t3,t11,t12,t13,aG]
  refine aH (λhlt=>?_) (λhlt=>?_)
  .obtain⟨b6,o6,c6,T,e6,-,bK,hT⟩:=hA.at hlt
   have bK:=hf.ld hW bK
   have hlT:=aX.len hT
   have a6:V.c (.sl b6 o6 n c6)=V.c v:=by rw[e6]
   rw[e6]at t11
   simp(disch:=try exact jz) only[go_sem,z3,t3,t11,t12,t13,bK,hlT]
   refine bM.mono (Q:=λex tm σ4=>ex=.exit 2/\∃b,Tr.ah tm 3=.c (.sl σ.aj 0 n (.ex n))/\Tr.ah tm 11=.c (.sl b6 o6 n c6)/\Tr.ah tm 12=.c (.int .i64 (.ofNat n))/\Tr.ah tm 13=.c (.int .i64 (.ofNat i))
     /\σ4.h σ.aj=some ⟨ones n (KE m bs i (aV m b)),none⟩/\NF NoQ σ4.h b m (λc=>dY (A i c)) 3 50 σ'.aj σ4.aj/\aU [σ.aj] σ' σ4)
    (aF (λq tm σ4=>∃j b,q=m-j/\j<=m/\Tr.ah tm 3=.c (.sl σ.aj 0 n (.ex n))/\Tr.ah tm 4=.c (.int .i64 (.ofNat i))/\Tr.ah tm 11=.c (.sl b6 o6 n c6)/\Tr.ah tm 12=.c (.int .i64 (.ofNat n))/\Tr.ah tm 13=.c (.int .i64 (.ofNat i))
     /\Tr.ah tm 18=.c T/\Tr.ah tm 19=.c (.int .i64 (.ofNat m))/\Tr.ah tm 20=.c (.int .i64 (.ofNat j))
     /\σ4.h σ.aj=some ⟨ones n (KE m bs i (aV j b)),none⟩/\NF NoQ σ4.h b j (λc=>dY (A i c)) 3 50 σ'.aj σ4.aj/\aU [σ.aj] σ' σ4) m ?_ ?_) ?_
   .refine⟨0,σ'.aj,jb,jb,?_⟩
    simp(disch:=try exact jz) only[go_sem,z3,t3,t11,t12,t13,am]
    exact⟨q3,NF.nil λ_=>rfl,aU.refl hf.wf⟩
   .rintro q Xv σ4 ⟨j,b,rfl,hj,t3,t4,t11,t12,t13,qc,t19,t20,q4,hN,hf4⟩
    have oM:=hf4.le
    have hg:=hN.g
    have hl1:=hN.l1
    have hl2:=hN.l2
    have hL:=hN.L
    simp(disch:=try exact jz) only[go_sem,z3,t3,t4,t11,t12,t13,qc,t19,t20,aG]
    refine aH (λZx=>?_) (λZx=>?_)
    .obtain⟨b7,o7,c7,e7,-,dA⟩:=aX.at3 hT Zx
     have axR:=hW.dw dA
     have dA:=hf4.ld hf.wf kd (hf.ld hW dA)
     have a7:V.c (.sl b7 o7 m c7)=V.c T:=by rw[e7]
     rw[e7]at qc
     have z1:=hz i j hlt Zx
     have FH:=aU.refl (ex:=[σ.aj]) hf4.wf
     have hnl:=hf4.wf.lt q4
     have eT:KE m bs i (aV j b) i=aV j b:=by unfold KE;rw[ab jb,ae rfl]
     simp(disch:=try exact jz) only[go_sem,z3,t3,t4,t11,t12,t13,qc,t19,t20,dA,acJ,au q4,q4,eT,hg,aI q4,ald]
     refine⟨m-(j+1),jb,j+1,σ4.aj+1+1,rfl,jb,a7,rfl,rfl,?_,by repeat(first|assumption|exact aU.refl (by assumption)|exact aU.up (by assumption) kf|exact aU.up (aU.refl (by assumption)) kf|refine aU.set1 ?_ kg kf|refine aU.lU ?_ kg|refine aU.oD ?_ kg|refine aU.pG ?_ kf)⟩
     refine hN.push (hi1:=σ4.aj) (h1:=σ4.h) (λ_ _=>Lc _) (λ_ _ _ _ h=>h) trivial (λ_ _ _=>rfl) jp jb jb jb ((ak _ _ _ _ jb).trans (aA _ _ _)) rfl (λc h1 h2 h3=>?_) (λ_ _=>rfl) (λ_=>rfl)
     grind[ak,iq]
    .have:j=m:=jb
     subst this
     simp(disch:=try exact jz) only[go_sem,z3,am]
     exact⟨b,t3,t11,t12,t13,q4,hN,hf4⟩
   .rintro _ Xv σ4 ⟨rfl,b,t3,t11,t12,t13,q4,hN,hf4⟩
    have oM:=hf4.le
    rw[tJ hm,agD]at q4
    simp(disch:=try exact jz) only[go_sem,z3,t3,t11,t12,t13]
    have hl1:=hN.l1
    have hl2:=hN.l2
    have hg:σ4.h b=some ⟨cO m (A i),some (3,50)⟩:=by
     have:=hN.g;cases m with
     |zero=>omega
     |succ m=>exact this
    refine⟨n-(i+1),jb,i+1,aN bs i b,rfl,jb,a6,rfl,q4,λk hk=>?_,λk l hk hl e=>?_,aU.to hf hf4 (λb hb=>by simp at hb;omega),jb⟩
    .by_cases e:k=i
     .subst e;rw[aK];exact⟨hg,jb,jb⟩
     .obtain⟨k1,k2,k3⟩:=hr k jb
      rw[aS _ _ _ _ e]
      exact⟨hf4.get hf.wf (by simp<;>omega) k1,k2,jb⟩
    .by_cases e1:k=i<;>by_cases e2:l=i
     .omega
     .exfalso
      rw[e1,aK,aS _ _ _ _ e2]at e
      have:=(hr l jb).2.2;omega
     .exfalso
      rw[e2,aK,aS _ _ _ _ e1]at e
      have:=(hr k jb).2.2;omega
     .rw[aS _ _ _ _ e1,aS _ _ _ _ e2]at e
      exact hinj k l jb jb e
  .have:i=n:=jb
   subst this
   simp(disch:=try exact jz) only[go_sem,z3,t3]
   refine⟨⟨σ.aj,bs,rfl,jp,⟨?_,hr,hinj,jb,jb⟩⟩,hf⟩
   rw[q3]
   exact bN (λl=>some (Bk.mk l none)) (dB λk hk=>ae hk)
end Go.Proofs.Xe
