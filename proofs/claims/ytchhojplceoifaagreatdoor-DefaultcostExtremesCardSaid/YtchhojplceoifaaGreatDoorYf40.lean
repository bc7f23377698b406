import Derived.Test.YtchhojplceoifaaGreatDoorYf39
set_option linter.all false
set_option maxRecDepth 100000
set_option maxHeartbeats 8000000
namespace Go.Proofs.Ins
def FW(i r:Nat):Nat:=if r<i then r else r+1
def sg1(k:Nat):Rat:=if k%2=0 then 1 else-1
def jH:Nat->(Nat->Nat->Rat)->Rat
 |0,_=>1
 |k+1,A=>aB (k+1) λi=>sg1 (i+k)*A k i*jH k λc r=>A c (FW i r)
def iO(A:Nat->Nat->Rat)(a:Nat)(u:Nat->Rat)(c r:Nat):Rat:=if c=a then u r else A c r
def ab7{i r k:Nat}(hi:i<k+1)(hr:r<k):FW i r<k+1:=by grind[FW]
theorem uY:∀(k:Nat) (A B:Nat->Nat->Rat),(∀c r,c<k->r<k->A c r=B c r)->jH k A=jH k B
 |0,_,_,_=>rfl
 |k+1,A,B,h=>by unfold jH;refine aQ λi hi=>?_;rw[h k i jb hi,uY k (λc r=>A c (FW i r)) (λc r=>B c (FW i r)) λc r hc hr=>h c _ jb (ab7 hi hr)]
def CB:∀(k:Nat) (A:Nat->Nat->Rat) (a:Nat) (u w:Nat->Rat) (s:Rat),a<k->jH k (iO A a λr=>u r+s*w r)=jH k (iO A a u)+s*jH k (iO A a w)
 |0,_,_,_,_,_,h=>jb
 |k+1,A,a,u,w,s,ha=>by
  unfold jH;rw[<-gQ,<-dF];refine aQ λi hi=>?_;by_cases e:a=k
  .subst e;have h:∀u',jH a (λc r=>iO A a u' c (FW i r))=jH a λc r=>A c (FW i r):=λu'=>uY a _ _ λc r hc hr=>by unfold iO;rw[ab jb]
   rw[h,h,h];unfold iO;rw[ae rfl,ae rfl,ae rfl];grind
  .have h:∀u',(λc r=>iO A a u' c (FW i r))=iO (λc r=>A c (FW i r)) a λr=>u' (FW i r):=λu'=>by funext c r;unfold iO;split<;>rfl
   have h2:∀u',iO A a u' k i=A k i:=λu'=>by unfold iO;rw[ab jb]
   rw[h,h,h,h2,h2,h2];have:=CB k (λc r=>A c (FW i r)) a (λr=>u (FW i r)) (λr=>w (FW i r)) s jb;rw[this];grind
theorem Um(A:Nat->Nat->Rat)(a:Nat):iO A a (A a)=A:=by grind[iO]
def ald{k:Nat}(halt:∀(A:Nat->Nat->Rat) (a b:Nat),a<b->b<k->(∀r,r<k->A a r=A b r)->jH k A=0)(A:Nat->Nat->Rat){a b:Nat}(hab:a<b)(hb:b<k):
  jH k (iO (iO A a (A b)) b (A a))=-jH k A:=by
 have hne:a≠b:=jb
 have hcomm:∀u v,iO (iO A a u) b v=iO (iO A b v) a u:=λu v=>by grind[iO]
 have h0:=halt (iO (iO A a λr=>A a r+1*A b r) b λr=>A a r+1*A b r) a b hab hb λr _=>by grind[iO]
 have e:∀u v,(∀r,r<k->u r=v r)->jH k (iO (iO A a u) b v)=0:=λu v h=>halt _ a b hab hb λr hr=>by grind[iO]
 rw[CB k _ b (A a) (A b) 1 hb]at h0
 rw[hcomm _ (A a),hcomm _ (A b),CB k _ a (A a) (A b) 1 jb,CB k _ a (A a) (A b) 1 jb]at h0
 grind[Um]
def ape{n p:Nat}(hp:p<n+1)(f:Nat->Rat):aB n (λi=>f (FW p i))=aB (n+1) λq=>if q=p then 0 else f q:=by
 induction n generalizing p with
 |zero=>grind[aB]
 |succ n ih=>
  rw[aB,aB]
  by_cases e:p=n+1
  .grind[aB,aQ,FW]
  .rw[ih jb,ab (λh=>e h.symm)]
   grind[FW]
theorem apf(a b:Nat):sg1 (a+b)=sg1 a*sg1 b:=by grind[sg1]
def LZ(p q:Nat):Nat:=if q<p then q else q-1
def apg{p i:Nat}:LZ p (FW p i)=i:=by grind[FW,LZ]
theorem aph{p q:Nat}(h:p≠q)(r:Nat):FW p (FW (LZ p q) r)=FW q (FW (LZ q p) r):=by grind[LZ,FW]
theorem auA{p q:Nat}(h:p≠q):sg1 p*sg1 (LZ p q)=-(sg1 q*sg1 (LZ q p)):=by grind[LZ,sg1]
theorem ad7(m:Nat)(A:Nat->Nat->Rat)(h:∀r,r<m+2->A m r=A (m+1) r):jH (m+2) A=0:=by
 obtain⟨S,hS⟩:∃S:Nat->Nat->Rat,S=λp q=>if q=p then 0 else sg1 (p+(m+1))*A m p*(sg1 (LZ p q+m)*A m q*jH m λc r=>A c (FW p (FW (LZ p q) r))):=⟨_,rfl⟩
 have h1:jH (m+2) A=aB (m+2) λp=>aB (m+2) λq=>S p q:=by rw[jH];refine aQ λp hp=>?_;rw[jH,<-h p hp,<-gQ];have e:=ape (n:=m+1) hp λq=>sg1 (p+(m+1))*A m p*(sg1 (LZ p q+m)*A m q*jH m λc r=>A c (FW p (FW (LZ p q) r)));rw[hS];dsimp only;rw[<-e];exact aQ λi _=>by rw[apg]
 have h2:∀p q,S p q=-S q p:=λp q=>by grind[aph,auA,apf]
 have h3:aB (m+2) (λp=>aB (m+2) λq=>S p q)=-aB (m+2) λp=>aB (m+2) λq=>S p q:=by
  have a:aB (m+2) (λp=>aB (m+2) λq=>S p q)=aB (m+2) λp=>(-1)*aB (m+2) λq=>S q p:=aQ λp _=>by rw[<-gQ];grind
  rw[gQ,<-Bc (m+2) (m+2) λp q=>S p q]at a;grind
 grind
theorem Jr:∀(k:Nat) (A:Nat->Nat->Rat) (a b:Nat),a<b->b<k->(∀r,r<k->A a r=A b r)->jH k A=0
 |0,_,_,_,_,h,_=>jb
 |k+1,A,a,b,hab,hb,h=>by
  by_cases e:b=k
  .subst e;obtain⟨m,rfl⟩:∃m,b=m+1:=⟨b-1,jb⟩
   by_cases e2:a=m
   .grind[ad7]
   ·--swap columns a and m
    have hs:=ad7 m (iO (iO A a (A m)) m (A a)) λr hr=>by grind[iO]
    have:jH (m+2) (iO (iO A a (A m)) m (A a))=-jH (m+2) A:=by
     unfold jH;have e3:∀i,jH (m+1) (λc r=>iO (iO A a (A m)) m (A a) c (FW i r))=-jH (m+1) λc r=>A c (FW i r):=λi=>by rw[<-ald (k:=m+1) (Jr (m+1)) (λc r=>A c (FW i r)) (a:=a) (b:=m) jb jb];refine uY _ _ _ λc r _ _=>?_;unfold iO;split<;>(try split)<;>rfl
     have e4:∀i,iO (iO A a (A m)) m (A a) (m+1) i=A (m+1) i:=λi=>by unfold iO;rw[ab jb,ab jb]
     rw[show∀x:Rat,-x=(-1)*x by intro x;grind,<-gQ];exact aQ λi _=>by rw[e3,e4];grind
    rw[hs]at this;grind
  .unfold jH;exact bK λi hi=>by rw[Jr k (λc r=>A c (FW i r)) a b hab jb λr hr=>h _ (ab7 hi hr)];grind
def ale{k a:Nat}(A:Nat->Nat->Rat)(ha:a<k):jH k (iO A a λ_=>0)=0:=by have:=CB k A a (λ_=>0) (λ_=>0) 1 ha;grind
def QC{k a:Nat}(A:Nat->Nat->Rat)(ha:a<k)(x:Nat->Rat)(B:Nat->Nat->Rat):∀m,jH k (iO A a λr=>aB m λl=>x l*B l r)=aB m λl=>x l*jH k (iO A a (B l))
 |0=>ale A ha
 |m+1=>by have:(λr=>aB (m+1) λl=>x l*B l r)=λr=>aB m (λl=>x l*B l r)+x m*B m r:=rfl;rw[this,CB k A a _ _ _ ha,QC A ha x B m];rfl
def auB{k i:Nat}(A:Nat->Nat->Rat)(hi:i<k)(x w:Nat->Rat)(h:∀r,r<k->w r=aB k λl=>A l r*x l):jH k (iO A i w)=x i*jH k A:=by
 have e:jH k (iO A i w)=jH k (iO A i λr=>aB k λl=>x l*A l r):=uY k _ _ λc r _ hr=>by grind[iO]
 rw[e,QC A hi];rw[jE hi λl hl hne=>?_,Um];have:jH k (iO A i (A l))=0:=by
  rcases Nat.lt_or_gt_of_ne hne with hlt|hlt
  .grind[Jr,iO]
  grind[Jr,iO]
 grind
def alf{k:Nat}(A:Nat->Nat->Rat)(x:Nat->Rat)(h:∀r,r<k->A k r=aB k λl=>A l r*x l):jH (k+1) A=(A k k-aB k λl=>A l k*x l)*jH k A:=by
 obtain⟨s,hs⟩:∃s,s=A k k-aB k λl=>A l k*x l:=⟨_,rfl⟩
 have e:jH (k+1) A=jH (k+1) (iO A k λr=>aB k (λl=>x l*A l r)+s*(if r=k then 1 else 0)):=uY _ _ _ λc r hc hr=>by grind[iO]
 rw[e,CB _ _ _ _ _ _ jb,QC A jb,bK λl hl=>?_,<-hs]
 .have:jH (k+1) (iO A k λr=>if r=k then 1 else 0)=jH k A:=by
   rw[show jH (k+1) (iO A k λr=>if r=k then 1 else 0)=aB (k+1) λi=>sg1 (i+k)*iO A k (λr=>if r=k then 1 else 0) k i*jH k λc r=>iO A k (λr=>if r=k then 1 else 0) c (FW i r)from rfl];rw[jE (k:=k) jb λi _ hne=>?_]
   .grind[Go.Proofs.Ins.sg1,Go.Proofs.Ins.iO,Go.Proofs.Ins.uY,Go.Proofs.Ins.FW]
   grind[iO]
  grind
 grind[Jr,iO]
def Gq(q:Rat):Prop:=∃z:Int,q=(z:Rat)
theorem Gq.add{a b:Rat}(ha:Gq a)(hb:Gq b):Gq (a+b):=by obtain⟨x,rfl⟩:=ha;obtain⟨y,rfl⟩:=hb;exact⟨x+y,by simp⟩
def Gq.mul{a b:Rat}(ha:Gq a)(hb:Gq b):Gq (a*b):=by obtain⟨x,rfl⟩:=ha;obtain⟨y,rfl⟩:=hb;exact⟨x*y,by simp⟩
def Gq.neg{a:Rat}(ha:Gq a):Gq (-a):=by obtain⟨x,rfl⟩:=ha;exact⟨-x,by rfl⟩
def Gq.sub{a b:Rat}(ha:Gq a)(hb:Gq b):Gq (a-b):=by rw[gO];exact ha.add hb.neg
theorem Gq.sum{n:Nat}{f:Nat->Rat}(h:∀i,i<n->Gq (f i)):Gq (aB n f):=by
 induction n with
 |zero=>exact⟨0,rfl⟩
 |succ n ih=>exact(ih λi hi=>h i jb).add (h n jb)
theorem Gq.sg1(k:Nat):Gq (sg1 k):=by unfold Ins.sg1;split;exact⟨1,rfl⟩;exact⟨-1,rfl⟩
def WI:∀(k:Nat) (A:Nat->Nat->Rat),(∀c r,c<k->r<k->Gq (A c r))->Gq (jH k A)
 |0,_,_=>⟨1,rfl⟩
 |k+1,A,h=>by unfold jH;exact .sum λi hi=>((Gq.sg1 _).mul (h k i jb hi)).mul (WI k _ λc r hc hr=>h c _ jb (ab7 hi hr))
structure Bar(n k:Nat)(B W:Nat->Nat->Rat)(p:Rat):Prop where
 int:∀i j,i<n->j<=n->Gq (B i j)
 p0:p≠0
 pd:p=jH k λc r=>B r c
 ex:∃X:Nat->Nat->Rat,(∀r j,r<k->j<=n->B r j=aB k λl=>B r l*X l j)/\(∀l j,l<k->j<k->X l j=if l=j then 1 else 0)/\(∀l j,l<k->j<=n->W l j=p*X l j)/\∀i j,k<=i->i<n->j<=n->W i j=p*(B i j-aB k λl=>B i l*X l j)
def agM{n:Nat}{B:Nat->Nat->Rat}(h:∀i j,i<n->j<=n->Gq (B i j)):Bar n 0 B B 1:=
 ⟨h,jj,rfl,λ_ _=>0,λr j hr=>jb,λl j hl=>jb,λl j hl=>jb,λi j _ _ _=>by rw[aB];grind⟩
def Bar.isZ{n k:Nat}{B W:Nat->Nat->Rat}{p:Rat}(h:Bar n k B W p)(hk:k<=n):Gq p/\∀i j,i<n->j<=n->Gq (W i j):=by
 have hp:Gq p:=by rw[h.pd];exact WI k _ λc r hc hr=>h.int r c jb jb
 obtain⟨X,h1,h2,h3,h4⟩:=h.ex;have h5:∀l j,l<k->j<=n->Gq (p*X l j):=λl j hl hj=>by
  have:=auB (k:=k) (i:=l) (λc r=>B r c) hl (λl=>X l j) (λr=>B r j) λr hr=>h1 r j hr hj;rw[gb,h.pd,<-this];refine WI k _ λc r hc hr=>?_;unfold iO;split
  .exact h.int r j jb hj
  .exact h.int r c jb jb
 refine⟨hp,λi j hi hj=>?_⟩;by_cases hik:i<k
 .grind
 .rw[h4 i j jb hi hj];have:p*(B i j-aB k λl=>B i l*X l j)=p*B i j-aB k λl=>B i l*(p*X l j):=by
   have e:aB k (λl=>B i l*(p*X l j))=p*aB k λl=>B i l*X l j:=by rw[<-gQ];grind
   grind
  rw[this];exact(hp.mul (h.int i j hi hj)).sub (.sum λl hl=>(h.int i l hi jb).mul (h5 l j hl hj))
def KF(W:Nat->Nat->Rat)(k:Nat)(p:Rat)(i j:Nat):Rat:=if i=k then W k j else(W k k*W i j-W i k*W k j)/p
def Bar.swap{n k:Nat}{B W:Nat->Nat->Rat}{p:Rat}(h:Bar n k B W p)(hk:k<n){a:Nat}(ha:k<=a)(han:a<n):Bar n k (λi=>B (swp k a i)) (λi=>W (swp k a i)) p:=by
 obtain⟨X,h1,h2,h3,h4⟩:=h.ex;have hlo:∀i,i<k->swp k a i=i:=λi hi=>by grind[swp]
 have hhi:∀i,k<=i->i<n->k<=swp k a i/\swp k a i<n:=λi hi hin=>by grind[swp]
 refine⟨λi j hi hj=>h.int _ j (qh hk han hi) hj,h.p0,?_,X,λr j hr hj=>?_,h2,λl j hl hj=>?_,λi j hi hin hj=>?_⟩
 .rw[h.pd];exact uY k _ _ λc r _ hr=>by rw[hlo r hr]
 .rw[hlo r hr];exact h1 r j hr hj
 .rw[hlo l hl];exact h3 l j hl hj
 grind
def Bar.step{n k:Nat}{B W:Nat->Nat->Rat}{p:Rat}(h:Bar n k B W p)(hk:k<n)(h0:W k k≠0):Bar n (k+1) B (KF W k p) (W k k):=by
 obtain⟨X,h1,h2,h3,h4⟩:=h.ex;have hp0:=h.p0;obtain⟨R,hR⟩:∃R:Nat->Nat->Rat,R=λi j=>B i j-aB k λl=>B i l*X l j:=⟨_,rfl⟩
 have hRe:∀i j,R i j=B i j-aB k λl=>B i l*X l j:=λi j=>by rw[hR]
 have hW:∀i j,k<=i->i<n->j<=n->W i j=p*R i j:=λi j a b d=>by grind
 have hs:R k k≠0:=λe=>h0 kd;have hWk:=hW k k jp hk jb;obtain⟨Y,hY⟩:∃Y:Nat->Rat,∀j,Y j*R k k=R k j:=⟨λj=>R k j/R k k,λj=>df hs⟩
 have hpd:W k k=jH (k+1) λc r=>B r c:=by rw[alf (λc r=>B r c) (λl=>X l k) λr hr=>h1 r k hr jb,<-h.pd,hWk,hRe,gb]
 have key:∀i j,aB (k+1) (λl=>B i l*(if l=k then Y j else X l j-X l k*Y j))=aB k (λl=>B i l*X l j)+R i k*Y j:=λi j=>by
  rw[aB,ae rfl];have e:aB k (λl=>B i l*(if l=k then Y j else X l j-X l k*Y j))=aB k (λl=>B i l*X l j)-aB k (λl=>B i l*X l k)*Y j:=by rw[<-ru,<-iH];exact aQ λl hl=>by rw[ab jb];grind
  grind
 have hdiv:∀a:Rat,(a*p)/p=a:=λa=>by rw[Rat.div_def,Rat.mul_assoc,Rat.mul_inv_cancel _ hp0,Rat.mul_one]
 refine⟨h.int,h0,hpd,λl j=>if l=k then Y j else X l j-X l k*Y j,λr j hr hj=>?_,λl j hl hj=>?_,λl j hl hj=>?_,λi j hi hin hj=>?_⟩
 .rw[key];by_cases e:r=k
  .subst e;have:=hY j;have:=hRe r j;grind
  .have h5:=h1 r j jb hj;have h6:R r k=0:=by have:=h1 r k jb jb;rw[hRe];grind
   rw[h6];grind
 .dsimp only;by_cases e:l=k
  .rw[ae e];by_cases e2:j=k
   .rw[ae jb];have:=hY k;have e3:Y k=1:=by
     have:(Y k-1)*R k k=0:=by grind
     rcases gR.mp this with e|e
     .grind
     .exact absurd e hs
    rw[e2];exact e3
   .rw[ab jb];have h5:R k j=0:=by rw[hRe,jE (k:=j) jb λl hl hne=>by rw[h2 l j hl jb,ab hne];grind,h2 j j jb jb,ae rfl];grind
    have:=hY j;rw[h5]at this;rcases gR.mp this with e|e
    .exact e
    .exact absurd e hs
  .rw[ab e];by_cases e2:j=k
   .subst e2;have e3:Y j=1:=by
     have:=hY j;have:(Y j-1)*R j j=0:=by grind
     rcases gR.mp this with e|e
     .grind
     .exact absurd e hs
    rw[e3,ab e];grind
   .have h5:R k j=0:=by rw[hRe,jE (k:=j) jb λl hl hne=>by rw[h2 l j hl jb,ab hne];grind,h2 j j jb jb,ae rfl];grind
    have e4:Y j=0:=by
     have:=hY j;rw[h5]at this;rcases gR.mp this with e|e
     .exact e
     .exact absurd e hs
    rw[e4,h2 l j jb jb];grind
 .unfold KF;dsimp only;by_cases e:l=k
  .subst e;rw[ae rfl,ae rfl,hWk,hW l j jp hk hj,<-hY j];grind
  .rw[ab e,ab e,hWk,hW k j jp hk hj,h3 l j jb hj,h3 l k jb jb,<-hY j];have:p*R k k*(p*X l j)-p*X l k*(p*(Y j*R k k))=(p*R k k*(X l j-X l k*Y j))*p:=by grind
   rw[this,hdiv]
 grind[KF]
def Bar.pivot{n k:Nat}{B W:Nat->Nat->Rat}{p:Rat}(h:Bar n k B W p)(hk:k<n)(hinj:∀z:Nat->Rat,(∀i,i<n->aB n (λj=>B i j*z j)=0)->∀j,j<n->z j=0):∃i,k<=i/\i<n/\W i k≠0:=by
 refine bz λhno=>?_;obtain⟨X,h1,h2,h3,h4⟩:=h.ex;have hz:∀i,i<n->aB n (λj=>B i j*(if j=k then 1 else if j<k then-X j k else 0))=0:=λi hi=>by
  have e:aB n (λj=>B i j*(if j=k then 1 else if j<k then-X j k else 0))=B i k-aB k λl=>B i l*X l k:=by
   have e1:∀m,m<=n-k-1->aB (k+1+m) (λj=>B i j*(if j=k then 1 else if j<k then-X j k else 0))=B i k-aB k λl=>B i l*X l k:=by
    intro m;induction m with
    |zero=>
     intro _
     rw[cB,aB,ae rfl]
     have:aB k (λj=>B i j*(if j=k then 1 else if j<k then-X j k else 0))=(-1)*aB k λl=>B i l*X l k:=by rw[<-gQ];exact aQ λj hj=>by rw[ab jb,ae hj];grind
     rw[this];grind
    |succ m ih=>
     intro hm
     rw[<-Nat.add_assoc,aB,ih jb,ab jb,ab jb];grind
   have:=e1 (n-k-1) jp;grind
  rw[e];by_cases hik:i<k
  .have:=h1 i k hik jb;grind
  .have h5:W i k=0:=bz λhne=>hno ⟨i,jb,hi,hne⟩;rw[h4 i k jb hi jb]at h5;rcases gR.mp h5 with e|e
   .exact absurd e h.p0
   .exact e
 have:=hinj _ hz k hk;grind
def Bar.done{n:Nat}{B W:Nat->Nat->Rat}{p:Rat}(h:Bar n n B W p):(∀i,i<n->W i i≠0)/\∀i,i<n->aB n (λl=>B i l*(W l n/W l l))=B i n:=by
 obtain⟨X,h1,h2,h3,h4⟩:=h.ex;have hd:∀l,l<n->W l l=p:=λl hl=>by grind
 refine⟨λi hi=>by rw[hd i hi];exact h.p0,λi hi=>?_⟩;rw[h1 i n hi jp];refine aQ λl hl=>?_;rw[hd l hl,h3 l n hl jp];congr 1;rw[gb,Rat.div_def,Rat.mul_assoc,Rat.mul_inv_cancel _ h.p0,Rat.mul_one]
end Go.Proofs.Ins
namespace Go.Proofs.Xe
open Go.RowKit Go.Proofs.Ins
def mO(b:Nat)(q:Rat):Prop:=∃(z:Int) (Q:Nat),0<Q/\Q<=2^b/\z.natAbs<=2^b/\q=(z:Rat)/(Q:Rat)
def ad8{b:Nat}:2^b<256^(b/8+1):=by have e:(2:Nat)^(8*(b/8+1))=(2^8)^(b/8+1):=Nat.pow_mul 2 8 _;have e2:(2:Nat)^8=256:=rfl;rw[e2]at e;rw[<-e];exact Nat.pow_lt_pow_right jj jb
theorem zV{a b:Nat}(h:a<=b):2^a<=2^b:=bB jj h
def qj{a b x y:Nat}(h:x<=2^a)(h':y<=2^b):x*y<=2^(a+b):=by simp_all[eg,cH]
def mO.sz{b:Nat}{q:Rat}(h:mO b q)(hb:b<=200000000):Sz q:=by obtain⟨z,Q,h1,h2,h3,rfl⟩:=h;have a:Sm (b/8+1) (z:Rat):=Sm.int jb (cV h3 ad8);have c:Sm (b/8+1) ((Q:Int):Rat):=Sm.int jb (cV jb ad8);exact(a.div c (iI h1)).mono (by unfold szK;omega)
def mO.mono{a b:Nat}{q:Rat}(h:mO a q)(hab:a<=b):mO b q:=by obtain⟨z,Q,h1,h2,h3,e⟩:=h;exact⟨z,Q,h1,ap h2 (zV hab),ap h3 (zV hab),e⟩
def mO.int{b:Nat}{z:Int}(h:z.natAbs<=2^b):mO b (z:Rat):=⟨z,1,jj,hJ,h,by grind⟩
def mO.mul{a b:Nat}{p q:Rat}(h:mO a p)(h':mO b q):mO (a+b) (p*q):=by obtain⟨z,Q,h1,h2,h3,rfl⟩:=h;obtain⟨y,R,k1,k2,k3,rfl⟩:=h';refine⟨z*y,Q*R,cg h1 k1,by simp_all[eg,cH],by simp_all[fh,eg,cH],?_⟩;grind
def mO.neg{a:Nat}{p:Rat}(h:mO a p):mO a (-p):=by obtain⟨z,Q,h1,h2,h3,rfl⟩:=h;refine⟨-z,Q,h1,h2,jb,?_⟩;grind
def ab8{s:Int}(h:s=1\/s=-1):(s:Rat)*(s:Rat)=1:=by rw[<-dc];rcases h with rfl|rfl<;>rfl
def ax8{s:Rat}(h:s*s=1):s≠0:=λe=>by grind
def WJ(z:Int):∃s:Int,(s=1\/s=-1)/\((z.natAbs:Nat):Rat)=(s:Rat)*(z:Rat):=by
 have key:∀w:Int,(z.natAbs:Int)=w->((z.natAbs:Nat):Rat)=(w:Rat):=λw h=>by
  have:(((z.natAbs:Nat):Int):Rat)=(w:Rat):=by rw[h]
  exact this
 rcases Int.le_total 0 z with h0|h0
 .grind
 .refine⟨-1,.inr rfl,?_⟩;rw[key (-z) jb,Rat.intCast_neg];grind
def mO.div{a b:Nat}{p q:Rat}(h:mO a p)(h':mO b q)(h0:q≠0):mO (a+b) (p/q):=by
 obtain⟨z,Q,h1,h2,h3,rfl⟩:=h;obtain⟨y,R,k1,k2,k3,rfl⟩:=h';have hy:y≠0:=λe=>h0 (by rw[e];grind);obtain⟨s,hs,es⟩:=WJ y;have hyr:(y:Rat)≠0:=λe=>hy (eZ.mp e);have hss:=ab8 hs;refine⟨s*(z*R),Q*y.natAbs,cg h1 jb,by simp_all[eg,cH],?_,?_⟩
 .have e:(s*(z*R)).natAbs=z.natAbs*R:=by grind[Int.natAbs_mul]
  simp_all[eg,cH]
 .have a1:=iI h1;have a2:=iI k1;rw[dc,dc,eV,es];have e2:(((R:Nat):Int):Rat)=(R:Rat):=rfl;grind
def Ez(rows m a:Nat)(A:Nat->Nat->Rat):Prop:=∃Q:Nat,0<Q/\Q<=2^a/\∀i k,i<rows->k<m->∃z:Int,A i k=(z:Rat)/(Q:Rat)/\z.natAbs<=2^a
section
variable {rows m a b r p c:Nat} {A:Nat→Nat→Rat}
def Ez.rat(h:Ez rows m a A){i k:Nat}(hi:i<rows)(hk:k<m):mO a (A i k):=by obtain⟨Q,h1,h2,h3⟩:=h;obtain⟨z,e,hz⟩:=h3 i k hi hk;exact⟨z,Q,h1,h2,hz,e⟩
def Ez.mono(h:Ez rows m a A)(hab:a<=b):Ez rows m b A:=by obtain⟨Q,h1,h2,h3⟩:=h;refine⟨Q,h1,ap h2 (zV hab),λi k hi hk=>?_⟩;grind[Nat.le_trans,zV]
theorem Ez.elim(h:Ez rows m a A)(hr:r<rows)(hp:p<rows)(hc:c<m)(h0:A p c≠0):Ez rows m (2*a+1) (elim A r p c):=by
 obtain⟨Q,h1,h2,h3⟩:=h;obtain⟨P,eP,hP⟩:=h3 p c hp hc;have hP0:P≠0:=λe=>h0 (by rw[eP,e];grind);obtain⟨s,hs,es⟩:=WJ P;have hPr:(P:Rat)≠0:=λe=>hP0 (eZ.mp e);have hss:=ab8 hs;have a1:=iI h1;have e2:(2:Nat)^(2*a+1)=2^a*2^a+2^a*2^a:=by rw[dC,Nat.two_mul a,eg];omega
 have hQP:Q*P.natAbs<=2^a*2^a:=cH h2 hP;have hab:∀x:Int,(s*x).natAbs=x.natAbs:=λx=>by grind
 refine⟨Q*P.natAbs,cg h1 jb,jb,λi k hi hk=>?_⟩;obtain⟨z,ez,hz⟩:=h3 p k hp hk;unfold Ins.elim;have hs0:=ax8 hss;by_cases e:i=r
 .rw[ae e];refine⟨s*(z*Q),?_,?_⟩
  .rw[ez,eP,dc,dc,eV,es];have e3:(((Q:Nat):Int):Rat)=(Q:Rat):=rfl;grind
  .rw[hab,fh,ia];have:=cH hz h2;omega
 .rw[ab e];obtain⟨y,ey,hy⟩:=h3 _ k (qh hr hp hi) hk;obtain⟨w,ew,hw⟩:=h3 _ c (qh hr hp hi) hc;refine⟨s*(y*P-w*z),?_,?_⟩
  .rw[ey,ew,ez,eP,dc,Rat.intCast_sub,dc,dc,eV,es];generalize (s:Rat)=s at*;generalize (P:Rat)=P at*;grind
  .rw[hab];have k1:=cH hy hP;have k2:=cH hw hz;have k3:(y*P-w*z).natAbs<=(y*P).natAbs+(w*z).natAbs:=jb;rw[fh,fh]at k3;omega
def L6(a:Nat):Nat->Nat
 |0=>a
 |c+1=>2*L6 a c+1
def BA(a:Nat){c:Nat}:∀{d:Nat},c<=d->L6 a c<=L6 a d
 |0,h=>by grind
 |d+1,h=>by
  rcases fM c (d+1)with h2|h2
  .have:=BA a (c:=c) (d:=d) jb;show _<=2*L6 a d+1;omega
  grind
def alg(a:Nat):∀c,a<=L6 a c:=λc=>BA a (br c)
def Un(h:Ez rows m a A):∀{c:Nat},c<=m->Ez rows m (L6 a c) (ech rows A c).1
 |0,_=>h
 |c+1,hc=>by
  have ih:=Un h (c:=c) jb;show Ez rows m (2*L6 a c+1) (RP rows (ech rows A c).1 (ech rows A c).2 c).1;generalize (ech rows A c).1=A' at*;generalize (ech rows A c).2=P;unfold RP;split
  .split
   .next h1 h2=>
    obtain⟨-,-,h3⟩:=FD A' c (rows-P.length) P.length;exact ih.elim h1 h2 jb (h3 jb)
   .exact ih.mono jb
  .exact ih.mono jb
def ab9(rows:Nat)(A:Nat->Nat->Rat)(P:List Nat)(c:Nat)(q:Rat):Rat:=
 if P.length<rows then
  (if P.length+vX A c P.length (rows-P.length)<rows then(if vX A c P.length (rows-P.length)=0 then q else-q)*A (P.length+vX A c P.length (rows-P.length)) c else q)
 else q
def xJ(rows:Nat)(A:Nat->Nat->Rat):Nat->Rat
 |0=>1
 |c+1=>ab9 rows (ech rows A c).1 (ech rows A c).2 c (xJ rows A c)
def acd(h:Ez rows m a A):∀{c:Nat},c<=m->mO (L6 a c) (xJ rows A c)
 |0,_=>mO.int (z:=1) (hJ)
 |c+1,hc=>by
  have ih:=acd h (c:=c) jb;have hA:=Un h (c:=c) jb;show mO (2*L6 a c+1) (ab9 rows (ech rows A c).1 (ech rows A c).2 c (xJ rows A c));generalize (ech rows A c).1=A' at*;generalize (ech rows A c).2=P;unfold ab9;split
  .split
   .next h1 h2=>
    refine mO.mono (mO.mul (a:=L6 a c) ?_ (hA.rat h2 jb)) jb;split
    .exact ih
    .exact ih.neg
   .exact ih.mono jb
  .exact ih.mono jb
end
def iv(s:Bool)(u:Nat):Int:=if s=true then-(u:Int)else(u:Int)
theorem Ap(s:Bool)(u:Nat):(iv s u).natAbs=u:=by cases s<;>simp[iv]
def alh(s:Bool){u:Nat}:iv s u=0↔u=0:=by cases s<;>simp[iv]
def ali(s t:Bool)(u v:Nat):iv (false==(s==t)) (u*v)=iv s u*iv t v:=by cases s<;>cases t<;>simp[iv]<;>grind
def apj{s t:Bool}(h:s≠t)(u v:Nat):iv s (u+v)=iv s u-iv t v:=by cases s<;>cases t<;>simp_all [iv]<;>omega
def ad9(s:Bool){u v:Nat}(h:v<=u):iv s (u-v)=iv s u-iv s v:=by cases s<;>simp[iv]<;>omega
def apk(s:Bool){u v:Nat}(h:¬v<=u):iv (!s) (v-u)=iv s u-iv s v:=by cases s<;>simp[iv]<;>omega
def auC{s t:Bool}{u v:Nat}{q:Int}(h:iv s u=q*iv t v)(hv:v≠0):iv (false==(s==t)) (u/v)=q:=by
 have ha:u=q.natAbs*v:=by have:=bO Int.natAbs h;rwa[Ap,fh,Ap]at this
 have hq:u/v=q.natAbs:=by rw[ha];exact Nat.mul_div_cancel _ jb
 rw[hq];have h2:iv (false==(s==t)) q.natAbs*(v:Int)=q*(v:Int):=by
  have e:(u:Int)=(q.natAbs:Int)*(v:Int):=by rw[ha,eC]
  cases s<;>cases t<;>simp[iv]at h⊢ <;>grind
 exact Int.eq_of_mul_eq_mul_right jb h2
def QW(n:Nat)(s:Nat->Bool)(u:Nat->Nat):List B:=bC n λi=>[.bool (s i),.str (bn (u i))]
def z2:[B.bool false,s0]=[.bool false,.str (bn 0)]:=rfl
def apl(n:Nat):rep [.bool false,.str (bn 0)] n=QW n (λ_=>false) λ_=>0:=MF _ n
def auD(n:Nat)(s:Nat->Bool)(u:Nat->Nat)(i:Nat)(h:i<n):zW (QW n s u) (i*2) 2 true=some (.agg [.bool (s i),.str (bn (u i))]):=by unfold QW;have:=Ad (e:=2) (k:=0) (m:=2) (G:=λi=>[B.bool (s i),.str (bn (u i))]) true (λ_=>rfl) h jj jj;rw[cB]at this;rw[this];rfl
def apm(n:Nat)(s:Nat->Bool)(u:Nat->Nat)(i:Nat)(h:i<n):zW (QW n s u) (i*2) 1 false=some (.c (.bool (s i))):=by unfold QW;have:=Ad (e:=2) (k:=0) (m:=1) (G:=λi=>[B.bool (s i),.str (bn (u i))]) false (λ_=>rfl) h jj jj;rw[cB]at this;rw[this];rfl
def apn(n:Nat)(s:Nat->Bool)(u:Nat->Nat)(i:Nat)(h:i<n):zW (QW n s u) (i*2+1) 1 false=some (.c (.str (bn (u i)))):=by unfold QW;have:=Ad (e:=2) (k:=1) (m:=1) (G:=λi=>[B.bool (s i),.str (bn (u i))]) false (λ_=>rfl) h jj jj;rw[this];rfl
def auE(n:Nat)(s:Nat->Bool)(u:Nat->Nat)(i:Nat)(t:Bool)(v:Nat)(h:i<n):yS (QW n s u) (i*2) [.bool t,.str (bn v)]=some (QW n (aN s i t) (aN u i v)):=by unfold QW;have:=yt (e:=2) (k:=0) (vs:=[.bool t,.str (bn v)]) (G:=λi=>[B.bool (s i),.str (bn (u i))]) (λ_=>rfl) h (cP 2);rw[cB]at this;rw[this];show some _=some _;congr 1;refine bH λj _=>?_;grind[iR,aN]
theorem BD{n:Nat}{s t:Nat->Bool}{u v:Nat->Nat}(h:∀i,i<n->s i=t i/\u i=v i):QW n s u=QW n t v:=bH λi hi=>by grind
def ax9:(false==(true==true))=false:=rfl
def aya:(false==(false==false))=false:=rfl
def ayb:(false==(true==false))=true:=rfl
def ayc:(false==(false==true))=true:=rfl
attribute [go_sem] z2 apl auD apm apn auE ax9 aya ayb ayc
def auF{q:Rat}(h:q.den=1):rd q=⟨#[]⟩:=ae h
def auG{q:Rat}(h:q.den≠1):rd q=bn q.den:=ab h
def alj{n:Nat}(h:0<n):decide (bn n=⟨#[]⟩)=false:=az λe=>by grind[Di]
def nZ{b u:Nat}(h:u<=2^b)(hb:b<=400000000):EW u:=by have:=ou (cV h ad8);unfold EW;omega
def aea{σ:St}(hW:WF σ)(q:Rat):aC EN 219 [.agg [.bool (rn q),.str (rs q),.str (rd q)]] σ λr σ'=>r=.c (.str (bn q.den))/\Fr σ σ':=by
 refine aO (oJ.o _ _) oJ.h ?_;unfold oJ;dsimp only;have hFr:=Fr.refl hW;by_cases h:q.den=1
 .have e:=auF h;simp(disch:=try exact jz) only[go_sem,e,gn];exact⟨by rw[h],fr⟩
 .have e:=auG h;have hp:=q.den_pos;simp(disch:=try exact jz) only[go_sem,e,alj hp];exact fr
def ZH{σ:St}(hW:WF σ)(s t:Bool){u v:Nat}(hu:EW u)(hv:EW v):aC EN 220 [.agg [.bool s,.str (bn u)],.agg [.bool t,.str (bn v)]] σ λr σ'=>r=.agg [.bool (false==(s==t)),.str (bn (u*v))]/\Fr σ σ':=by refine aO (nI.o _ _) nI.h ?_;unfold nI;dsimp only;have hFr:=Fr.refl hW;simp(disch:=try exact jz) only[go_sem];exact fr
def alk{σ:St}(hW:WF σ)(s t:Bool){u v:Nat}(hu:EW u)(hv:EW v):aC EN 221 [.agg [.bool s,.str (bn u)],.agg [.bool t,.str (bn v)]] σ λr σ'=>(∃w x,r=.agg [.bool w,.str (bn x)]/\iv w x=iv s u-iv t v)/\Fr σ σ':=by
 refine aO (nJ.o _ _) nJ.h ?_;unfold nJ;dsimp only;have hFr:=Fr.refl hW;by_cases hst:s=t
 .subst hst;have e0:(false==(s==s))=false:=by simp
  by_cases h:v<=u
  .have:=ad9 s h;simp(disch:=try exact jz) only[go_sem,e0,h,if_true,if_false];exact⟨⟨_,_,rfl,ad9 s h⟩,fr⟩
  .have h2:u<=v:=jb;simp(disch:=try exact jz) only[go_sem,e0,h,h2,if_true,if_false];exact⟨⟨_,_,rfl,apk s h⟩,fr⟩
 .have e0:(false==(s==t))=true:=by grind
  simp(disch:=try exact jz) only[go_sem,e0];exact⟨⟨_,_,rfl,apj hst u v⟩,fr⟩
def apo{σ:St}(hW:WF σ)(s t:Bool){u v:Nat}(hu:EW u)(hv:EW v)(h0:0<v):aC EN 222 [.agg [.bool s,.str (bn u)],.agg [.bool t,.str (bn v)]] σ λr σ'=>r=.agg [.bool (false==(s==t)),.str (bn (u/v))]/\Fr σ σ':=by refine aO (nV.o _ _) nV.h ?_;unfold nV;dsimp only;have hFr:=Fr.refl hW;simp(disch:=try exact jz) only[go_sem];exact fr
def Uo{q:Rat}{z:Int}{Q:Nat}(hQ:0<Q)(h:q=(z:Rat)/(Q:Rat)):q.den∣Q/\q.num.natAbs<=z.natAbs:=by
 have e:q=Ins.fr (!(decide (z<0)==decide ((Q:Int)<0))) z.natAbs (Q:Int).natAbs:=by rw[OH z Q jb];exact h
 rw[ia]at e;obtain⟨h1,h2⟩:=aak (n:=!(decide (z<0)==decide ((Q:Int)<0))) (x:=z.natAbs) hQ;rw[<-e]at h1 h2;exact⟨by grind[Nat.div_dvd_of_dvd,Nat.gcd_dvd_right],by simp_all[oz,fm]⟩
def auH(q:Rat){c:Nat}(h:q.den∣c):((iv (rn q) (q.num.natAbs*(c/q.den)):Int):Rat)=(c:Rat)*q:=by
 obtain⟨k,rfl⟩:=h;have hd:=q.den_pos;rw[Nat.mul_div_cancel_left _ hd];have e1:iv (rn q) (q.num.natAbs*k)=q.num*k:=by grind[iv,rn]
 have e2:(q.num:Rat)=q*(q.den:Rat):=by grind[iI,Rat.mkRat_self,Rat.mkRat_eq_div]
 have e3:((k:Int):Rat)=(k:Rat):=rfl;rw[e1,dc,e2,eV,e3];grind
theorem ace(c d:Nat):c*(d/Nat.gcd c d)=Nat.lcm c d:=by simp_all[Nat.lcm,Nat.mul_div_assoc,Nat.gcd_dvd_right]
def apq(s:Nat->Bool)(j k:Nat):Bool:=if k<j then s k else false
def apr(u:Nat->Nat)(j k:Nat):Nat:=if k<j then u k else 0
def alm{m j:Nat}{s:Nat->Bool}{u:Nat->Nat}:QW m (aN (apq s j) j (s j)) (aN (apr u j) j (u j))=QW m (apq s (j+1)) (apr u (j+1)):=BD λk _=>by grind[aN,apq,apr]
def acf{σ:St}(hW:WF σ){p:Nat->Prop}{v:B}{m:Nat}{r:Nat->Rat}(hr:kJ p σ.h v m r)(hm:m<=17){Q b:Nat}(hQ:0<Q)(hQb:Q<=2^b)(hb:b<=50000000)(hz:∀k,k<m->∃z:Int,r k=(z:Rat)/(Q:Rat)/\z.natAbs<=2^b):
  aC EN 192 [.c v] σ λx σ'=>(∃nb c,x=.c (.sl nb 0 m (.ex m))/\σ'.h nb=some ⟨QW m (λk=>rn (r k)) (λk=>(r k).num.natAbs*(c/(r k).den)),none⟩/\σ.aj<=nb/\nb<σ'.aj/\0<c/\c∣Q/\∀k,k<m->(r k).den∣c)/\Fr σ σ':=by
 refine aO (sS.o _ _) sS.h ?_
 unfold sS
 dsimp only
 have hFr:=Fr.refl hW
 have hlen:=aX.len hr
 simp(disch:=try exact jz) only[go_sem,hlen]
 refine bM.mono (Q:=λex tm σ1=>ex=.exit 0/\∃c,Tr.ah tm 0=.c v/\Tr.ah tm 3=.c (.str (bn c))/\0<c/\c∣Q/\(∀k,k<m->(r k).den∣c)/\Fr σ σ1)
  (aF (λq tm σ1=>∃j c,q=m-j/\j<=m/\Tr.ah tm 0=.c v/\Tr.ah tm 3=.c (.str (bn c))/\Tr.ah tm 17=.c v/\Tr.ah tm 18=jN m/\Tr.ah tm 19=jN j/\0<c/\c∣Q/\(∀k,k<j->(r k).den∣c)/\Fr σ σ1) m ?_ ?_) ?_
 .refine⟨0,1,jb,jb,?_⟩
  simp(disch:=try exact jz) only[go_sem,am]
  exact⟨jj,Nat.one_dvd _,λk h=>absurd h jb,fr⟩
 .rintro q tm σ1 ⟨j,c,rfl,hj,t0,t3,t17,nP,t19,hc,hcQ,hcd,hf⟩
  have mJ:=Fr.refl hf.wf
  simp(disch:=try exact jz) only[go_sem,t0,t3,t17,nP,t19,aG]
  refine aH (λhlt=>?_) (λhlt=>?_)
  .obtain⟨b7,o7,c7,e7,-,dB⟩:=aX.at3 hr hlt
   have dB:=hf.ld hW dB
   have a7:V.c (.sl b7 o7 m c7)=V.c v:=by rw[e7]
   rw[e7]at t17
   obtain⟨z,ez,hz1⟩:=hz j hlt
   obtain⟨hd,hnum⟩:=Uo hQ ez
   have hdp:=(r j).den_pos
   have zc:EW c:=nZ (ap (gL hQ hcQ) hQb) jb
   have zd:EW (r j).den:=nZ (ap (gL hQ hd) hQb) jb
   simp(disch:=try exact jz) only[go_sem,t0,t3,t17,nP,t19,dB]
   refine aC.st (Fr σ1) (fr) λhF=>?_
   refine(aea hF.wf (r j)).mono ?_
   rintro _ σ2 ⟨rfl,hf2⟩
   have hF2:=(hf.trans hF).trans hf2
   have hgp:0<Nat.gcd c (r j).den:=Nat.gcd_pos_of_pos_left _ hc
   have zg:EW (Nat.gcd c (r j).den):=nZ (ap (ap (Nat.gcd_le_left _ hc) (gL hQ hcQ)) hQb) jb
   have zq:EW ((r j).den/Nat.gcd c (r j).den):=nZ (ap (ap (fm _ _) (gL hQ hd)) hQb) jb
   simp(disch:=try exact jz) only[go_sem,t0,t3,t17,nP,t19]
   refine⟨m-(j+1),jb,j+1,_,rfl,jb,rfl,a7,rfl,?_,?_,λk hk=>?_,hF2⟩
   .grind[ace,Nat.lcm_pos]
   .grind[ace,Nat.lcm_dvd]
   grind[ace,Nat.dvd_lcm_right]
  .have:j=m:=jb
   subst this
   simp(disch:=try exact jz) only[go_sem,am]
   grind
 .rintro _ tm σ1 ⟨rfl,c,t0,t3,hc,hcQ,hcd,hf1⟩
  have abL:=Fr.refl hf1.wf
  have hle1:=hf1.le
  have zc:EW c:=nZ (ap (gL hQ hcQ) hQb) jb
  simp(disch:=try exact jz) only[go_sem,t0,t3,hlen]
  refine aF (λq tm σ2=>∃j,q=m-j/\j<=m/\Tr.ah tm 3=.c (.str (bn c))/\Tr.ah tm 10=.c (.sl σ1.aj 0 m (.ex m))/\Tr.ah tm 41=.c v/\Tr.ah tm 42=jN m/\Tr.ah tm 43=jN j
   /\σ2.h σ1.aj=some ⟨QW m (apq (λk=>rn (r k)) j) (apr (λk=>(r k).num.natAbs*(c/(r k).den)) j),none⟩/\Fr σ1 σ2/\σ1.aj+1<=σ2.aj) m ?_ ?_
  .refine⟨0,jb,jb,?_⟩
   simp(disch:=try exact jz) only[go_sem,am,t3]
   exact⟨bO (λl=>some (Bk.mk l none)) (BD λk _=>⟨(ab jb).symm,(ab jb).symm⟩),fr,jb⟩
  .rintro q tm σ2 ⟨j,rfl,hj,t3,t10,t41,t42,t43,q10,hf2,hnx⟩
   have Zf:=Fr.refl hf2.wf
   have hle2:=hf2.le
   simp(disch:=try exact jz) only[go_sem,t3,t10,t41,t42,t43,aG]
   refine aH (λhlt=>?_) (λhlt=>?_)
   .obtain⟨b7,o7,c7,e7,-,dB⟩:=aX.at3 hr hlt
    have dB:=(hf1.trans hf2).ld hW dB
    have a7:V.c (.sl b7 o7 m c7)=V.c v:=by rw[e7]
    rw[e7]at t41
    obtain⟨z,ez,hz1⟩:=hz j hlt
    obtain⟨hd,hnum⟩:=Uo hQ ez
    have hdp:=(r j).den_pos
    have zd:EW (r j).den:=nZ (ap (gL hQ hd) hQb) jb
    have zn:EW (r j).num.natAbs:=nZ (ap hnum hz1) jb
    have zq:EW (c/(r j).den):=nZ (ap (ap (fm _ _) (gL hQ hcQ)) hQb) jb
    simp(disch:=try exact jz) only[go_sem,t3,t10,t41,t42,t43,dB]
    refine aC.st (Fr σ2) (fr) λhF=>?_
    refine(aea hF.wf (r j)).mono ?_
    rintro _ σ3 ⟨rfl,hf3⟩
    have ayd:=hf3.get hF.wf (hF.get hf2.wf q10)
    have q12:σ3.h σ2.aj=some ⟨[.bool (rn (r j)),.str (rs (r j)),.str (rd (r j))],none⟩:=hf3.get hF.wf (aA _ _ _)
    have hle3:σ2.aj+1<=σ3.aj:=hf3.le
    have hrs:rs (r j)=bn (r j).num.natAbs:=rfl
    have hF3:=(hf2.trans hF).trans hf3
    have hst:=alm (m:=m) (j:=j) (s:=λk=>rn (r k)) (u:=λk=>(r k).num.natAbs*(c/(r k).den))
    simp(disch:=try exact jz) only[go_sem,t3,t10,t41,t42,t43,au q12,q12,hrs,ayd,aI ayd,hst]
    exact⟨m-(j+1),jb,j+1,rfl,jb,a7,rfl,rfl,fr,jb⟩
   .have:j=m:=jb
    subst this
    simp(disch:=try exact jz) only[go_sem,t10]
    refine⟨⟨_,c,rfl,?_,jb,jb,hc,hcQ,hcd⟩,hf1.trans hf2⟩
    rw[q10]
    exact bO (λl=>some (Bk.mk l none)) (BD λk hk=>⟨ae hk,ae hk⟩)
structure BF(h:Tr Bk)(mb n m:Nat)(A:Nat->Nat->Rat)(bs:Nat->Nat)(lo hi:Nat):Prop where
 o:h mb=some ⟨ones n λi=>.sl (bs i) 0 m .opn,none⟩
 r:∀i,i<n->h (bs i)=some ⟨cZ m (A i),some (3,50)⟩/\lo<=bs i/\bs i<hi
 inj:∀i j,i<n->j<n->bs i=bs j->i=j
 b:mb<lo
 l:lo<=hi
def BF.rows{h:Tr Bk}{mb n m lo hi:Nat}{A:Nat->Nat->Rat}{bs:Nat->Nat}(hM:BF h mb n m A bs lo hi){p:Nat->Prop}(hp:∀b,b=mb\/lo<=b/\b<hi->p b):dQ p h (.sl mb 0 n (.ex n)) n (λ_=>m) A:=
 ⟨λi=>.sl (bs i) 0 m .opn,bD _ hM.o rfl (hp _ (.inl rfl)) (λ_=>rfl) jj (λ_ _=>rfl),λi hi=>bD _ (hM.r i hi).1 (CQ _ _ jj) (hp _ (.inr (hM.r i hi).2)) (λ_=>rfl) jj λ_ _=>rfl⟩
def KG(m:Nat)(bs:Nat->Nat)(i:Nat)(v:B)(k:Nat):B:=if k<i then .sl (bs k) 0 m .opn else if k=i then v else .aP
def auI{n m:Nat}{bs:Nat->Nat}:ones n (λ_=>B.aP)=ones n (KG m bs 0 .aP):=cO λk _=>by grind[KG]
def aln{n m i:Nat}{bs:Nat->Nat}(v w:B):ones n (aN (KG m bs i v) i w)=ones n (KG m bs i w):=cO λk _=>by grind[aN,KG]
def agN{n m i b:Nat}{bs:Nat->Nat}:ones n (KG m bs i (.sl b 0 m .opn))=ones n (KG m (aN bs i b) (i+1) .aP):=cO λk _=>by grind[KG,aN]
def QD{σ:St}(hW:WF σ){p:Nat->Prop}{v:B}{n m:Nat}{A:Nat->Nat->Rat}(hA:dQ p σ.h v n (λ_=>m) A)(hn2:n<=16)(hm:0<m)(hm2:m<=17)(hz:∀i k,i<n->k<m->Sz (A i k)):
  aC EN 191 [.c v] σ λr σ'=>(∃mb bs,r=.c (.sl mb 0 n (.ex n))/\σ.aj<=mb/\BF σ'.h mb n m A bs (mb+1) σ'.aj)/\Fr σ σ':=by
 refine aO (yD.o _ _) yD.h ?_
 unfold yD
 dsimp only
 have hFr:=Fr.refl hW
 have hlen:=hA.len
 simp(disch:=try exact jz) only[go_sem,hlen]
 refine aF (λq tm σ'=>∃i bs,q=n-i/\i<=n/\Tr.ah tm 3=.c (.sl σ.aj 0 n (.ex n))/\Tr.ah tm 11=.c v/\Tr.ah tm 12=jN n/\Tr.ah tm 13=jN i
  /\σ'.h σ.aj=some ⟨ones n (KG m bs i .aP),none⟩/\(∀k,k<i->σ'.h (bs k)=some ⟨cZ m (A k),some (3,50)⟩/\σ.aj+1<=bs k/\bs k<σ'.aj)/\(∀k l,k<i->l<i->bs k=bs l->k=l)/\Fr σ σ'/\σ.aj+1<=σ'.aj) n ?_ ?_
 .refine⟨0,λ_=>0,jb,jb,?_⟩
  simp(disch:=try exact jz) only[go_sem,am]
  exact⟨bO (λl=>some (Bk.mk l none)) auI,λk h=>absurd h jb,λk l h=>absurd h jb,fr,jb⟩
 .rintro q tm σ' ⟨i,bs,rfl,hi,t3,t11,t12,t13,q3,hr,hinj,hf,hnx⟩
  have hle:=hf.le
  simp(disch:=try exact jz) only[go_sem,t3,t11,t12,t13,aG]
  refine aH (λhlt=>?_) (λhlt=>?_)
  .obtain⟨b6,o6,c6,T,e6,-,bJ,hT⟩:=hA.at hlt
   have bJ:=hf.ld hW bJ
   have hlT:=aX.len hT
   have a6:V.c (.sl b6 o6 n c6)=V.c v:=by rw[e6]
   rw[e6]at t11
   simp(disch:=try exact jz) only[go_sem,t3,t11,t12,t13,bJ,hlT]
   refine bM.mono (Q:=λex tm σ4=>ex=.exit 2/\∃b,Tr.ah tm 3=.c (.sl σ.aj 0 n (.ex n))/\Tr.ah tm 11=.c (.sl b6 o6 n c6)/\Tr.ah tm 12=jN n/\Tr.ah tm 13=jN i
     /\σ4.h σ.aj=some ⟨ones n (KG m bs i (aV m b)),none⟩/\NF NoQ σ4.h b m (λc=>dO (A i c)) 3 50 σ'.aj σ4.aj/\aU [σ.aj] σ' σ4)
    (aF (λq tm σ4=>∃j b,q=m-j/\j<=m/\Tr.ah tm 3=.c (.sl σ.aj 0 n (.ex n))/\Tr.ah tm 4=jN i/\Tr.ah tm 11=.c (.sl b6 o6 n c6)/\Tr.ah tm 12=jN n/\Tr.ah tm 13=jN i
     /\Tr.ah tm 18=.c T/\Tr.ah tm 19=jN m/\Tr.ah tm 20=jN j
     /\σ4.h σ.aj=some ⟨ones n (KG m bs i (aV j b)),none⟩/\NF NoQ σ4.h b j (λc=>dO (A i c)) 3 50 σ'.aj σ4.aj/\aU [σ.aj] σ' σ4) m ?_ ?_) ?_
   .refine⟨0,σ'.aj,jb,jb,?_⟩
    simp(disch:=try exact jz) only[go_sem,t3,t11,t12,t13,am]
    exact⟨q3,NF.nil λ_=>rfl,aU.refl hf.wf⟩
   .rintro q XB σ4 ⟨j,b,rfl,hj,t3,t4,t11,t12,t13,nP,t19,t20,q4,hN,hf4⟩
    have pY:=hf4.le
    have hg:=hN.g
    have hl1:=hN.l1
    have hl2:=hN.l2
    have hL:=hN.L
    simp(disch:=try exact jz) only[go_sem,t3,t4,t11,t12,t13,nP,t19,t20,aG]
    refine aH (λZI=>?_) (λZI=>?_)
    .obtain⟨b7,o7,c7,e7,-,dB⟩:=aX.at3 hT ZI
     have ax4:=hW.dA dB
     have dB:=hf4.ld hf.wf kd (hf.ld hW dB)
     have a7:V.c (.sl b7 o7 m c7)=V.c T:=by rw[e7]
     rw[e7]at nP
     have z1:=hz i j hlt ZI
     have FQ:=aU.refl (ex:=[σ.aj]) hf4.wf
     have hnl:=hf4.wf.lt q4
     have eT:KG m bs i (aV j b) i=aV j b:=by unfold KG;rw[ab jb,ae rfl]
     simp(disch:=try exact jz) only[go_sem,t3,t4,t11,t12,t13,nP,t19,t20,dB,acO,au q4,q4,eT,hg,aI q4,aln]
     refine⟨m-(j+1),jb,j+1,σ4.aj+1+1,rfl,jb,a7,rfl,rfl,?_,by repeat(first|assumption|exact aU.refl (by assumption)|exact aU.up (by assumption) kf|exact aU.up (aU.refl (by assumption)) kf|refine aU.set1 ?_ kg kf|refine aU.lW ?_ kg|refine aU.oG ?_ kg|refine aU.pK ?_ kf)⟩
     refine hN.push (hi1:=σ4.aj) (h1:=σ4.h) (λ_ _=>Ld _) (λ_ _ _ _ h=>h) trivial (λ_ _ _=>rfl) jp jb jb jb ((ak _ _ _ _ jb).trans (aA _ _ _)) rfl (λc h1 h2 h3=>?_) (λ_ _=>rfl) (λ_=>rfl)
     grind[ak,iq]
    .have:j=m:=jb
     subst this
     simp(disch:=try exact jz) only[go_sem,am]
     exact⟨b,t3,t11,t12,t13,q4,hN,hf4⟩
   .rintro _ XB σ4 ⟨rfl,b,t3,t11,t12,t13,q4,hN,hf4⟩
    have pY:=hf4.le
    rw[tX hm,agN]at q4
    simp(disch:=try exact jz) only[go_sem,t3,t11,t12,t13]
    have hl1:=hN.l1
    have hl2:=hN.l2
    have hg:σ4.h b=some ⟨cZ m (A i),some (3,50)⟩:=by
     have:=hN.g;cases m with
     |zero=>omega
     |succ m=>exact this
    refine⟨n-(i+1),jb,i+1,aN bs i b,rfl,jb,a6,rfl,q4,λk hk=>?_,λk l hk hl e=>?_,aU.to hf hf4 (λb hb=>by simp at hb;omega),jb⟩
    .by_cases e:k=i
     .subst e;rw[aK];exact⟨hg,jb,jb⟩
     .obtain⟨k1,k2,k3⟩:=hr k jb
      rw[aS _ _ _ _ e]
      exact⟨hf4.get hf.wf (by simp<;>omega) k1,k2,jb⟩
    .by_cases e1:k=i<;>by_cases e2:l=i
     .omega
     .exfalso
      rw[e1,aK,aS _ _ _ _ e2]at e
      have:=(hr l jb).2.2;omega
     .exfalso
      rw[e2,aK,aS _ _ _ _ e1]at e
      have:=(hr k jb).2.2;omega
     .rw[aS _ _ _ _ e1,aS _ _ _ _ e2]at e
      exact hinj k l jb jb e
  .have:i=n:=jb
   subst this
   simp(disch:=try exact jz) only[go_sem,t3]
   refine⟨⟨σ.aj,bs,rfl,jp,⟨?_,hr,hinj,jb,jb⟩⟩,hf⟩
   rw[q3]
   exact bO (λl=>some (Bk.mk l none)) (cO λk hk=>ae hk)
end Go.Proofs.Xe
