import Derived.Test.YthkggcakedkboaaGreatDoorY34
set_option linter.all false
set_option maxRecDepth 100000
set_option maxHeartbeats 8000000
namespace Go.Proofs.Ins
def DF(i r:Nat):Nat:=if r<i then r else r+1
def sg1(k:Nat):Rat:=if k%2=0 then 1 else-1
def jd:Nat->(Nat->Nat->Rat)->Rat
 |0,_=>1
 |k+1,A=>aA (k+1) λi=>sg1 (i+k)*A k i*jd k λc r=>A c (DF i r)
def iw(A:Nat->Nat->Rat)(a:Nat)(u:Nat->Rat)(c r:Nat):Rat:=if c=a then u r else A c r
def Zo{i r k:Nat}(hi:i<k+1)(hr:r<k):DF i r<k+1:=by grind[DF]
theorem rH:∀(k:Nat) (A B:Nat->Nat->Rat),(∀c r,c<k->r<k->A c r=B c r)->jd k A=jd k B
 |0,_,_,_=>rfl
 |k+1,A,B,h=>by unfold jd;refine aK λi hi=>?_;rw[h k i jb hi,rH k (λc r=>A c (DF i r)) (λc r=>B c (DF i r)) λc r hc hr=>h c _ jb (Zo hi hr)]
def zU:∀(k:Nat) (A:Nat->Nat->Rat) (a:Nat) (u w:Nat->Rat) (s:Rat),a<k->jd k (iw A a λr=>u r+s*w r)=jd k (iw A a u)+s*jd k (iw A a w)
 |0,_,_,_,_,_,h=>jb
 |k+1,A,a,u,w,s,ha=>by
  unfold jd;rw[<-fM,<-dA];refine aK λi hi=>?_;by_cases e:a=k
  .subst e;have h:∀u',jd a (λc r=>iw A a u' c (DF i r))=jd a λc r=>A c (DF i r):=λu'=>rH a _ _ λc r hc hr=>by unfold iw;rw[ab jb]
   rw[h,h,h];unfold iw;rw[ae rfl,ae rfl,ae rfl];grind
  .have h:∀u',(λc r=>iw A a u' c (DF i r))=iw (λc r=>A c (DF i r)) a λr=>u' (DF i r):=λu'=>by funext c r;unfold iw;split<;>rfl
   have h2:∀u',iw A a u' k i=A k i:=λu'=>by unfold iw;rw[ab jb]
   rw[h,h,h,h2,h2,h2];have:=zU k (λc r=>A c (DF i r)) a (λr=>u (DF i r)) (λr=>w (DF i r)) s jb;rw[this];grind
theorem Qe(A:Nat->Nat->Rat)(a:Nat):iw A a (A a)=A:=by grind[iw]
def ah2{k:Nat}(halt:∀(A:Nat->Nat->Rat) (a b:Nat),a<b->b<k->(∀r,r<k->A a r=A b r)->jd k A=0)(A:Nat->Nat->Rat){a b:Nat}(hab:a<b)(hb:b<k):
  jd k (iw (iw A a (A b)) b (A a))=-jd k A:=by
 have hne:a≠b:=jb
 have hcomm:∀u v,iw (iw A a u) b v=iw (iw A b v) a u:=λu v=>by grind[iw]
 have h0:=halt (iw (iw A a λr=>A a r+1*A b r) b λr=>A a r+1*A b r) a b hab hb λr _=>by grind[iw]
 have e:∀u v,(∀r,r<k->u r=v r)->jd k (iw (iw A a u) b v)=0:=λu v h=>halt _ a b hab hb λr hr=>by grind[iw]
 rw[zU k _ b (A a) (A b) 1 hb]at h0
 rw[hcomm _ (A a),hcomm _ (A b),zU k _ a (A a) (A b) 1 jb,zU k _ a (A a) (A b) 1 jb]at h0
 grind[Qe]
def alA{n p:Nat}(hp:p<n+1)(f:Nat->Rat):aA n (λi=>f (DF p i))=aA (n+1) λq=>if q=p then 0 else f q:=by
 induction n generalizing p with
 |zero=>grind[aA]
 |succ n ih=>
  rw[aA,aA]
  by_cases e:p=n+1
  .grind[aA,aK,DF]
  .rw[ih jb,ab (λh=>e h.symm)]
   grind[DF]
theorem alB(a b:Nat):sg1 (a+b)=sg1 a*sg1 b:=by grind[sg1]
def Ji(p q:Nat):Nat:=if q<p then q else q-1
def alC{p i:Nat}:Ji p (DF p i)=i:=by grind[DF,Ji]
theorem alD{p q:Nat}(h:p≠q)(r:Nat):DF p (DF (Ji p q) r)=DF q (DF (Ji q p) r):=by grind[Ji,DF]
theorem ap8{p q:Nat}(h:p≠q):sg1 p*sg1 (Ji p q)=-(sg1 q*sg1 (Ji q p)):=by grind[Ji,sg1]
theorem abb(m:Nat)(A:Nat->Nat->Rat)(h:∀r,r<m+2->A m r=A (m+1) r):jd (m+2) A=0:=by
 obtain⟨S,hS⟩:∃S:Nat->Nat->Rat,S=λp q=>if q=p then 0 else sg1 (p+(m+1))*A m p*(sg1 (Ji p q+m)*A m q*jd m λc r=>A c (DF p (DF (Ji p q) r))):=⟨_,rfl⟩
 have h1:jd (m+2) A=aA (m+2) λp=>aA (m+2) λq=>S p q:=by rw[jd];refine aK λp hp=>?_;rw[jd,<-h p hp,<-fM];have e:=alA (n:=m+1) hp λq=>sg1 (p+(m+1))*A m p*(sg1 (Ji p q+m)*A m q*jd m λc r=>A c (DF p (DF (Ji p q) r)));rw[hS];dsimp only;rw[<-e];exact aK λi _=>by rw[alC]
 have h2:∀p q,S p q=-S q p:=λp q=>by grind[alD,ap8,alB]
 have h3:aA (m+2) (λp=>aA (m+2) λq=>S p q)=-aA (m+2) λp=>aA (m+2) λq=>S p q:=by
  have a:aA (m+2) (λp=>aA (m+2) λq=>S p q)=aA (m+2) λp=>(-1)*aA (m+2) λq=>S q p:=aK λp _=>by rw[<-fM];grind
  rw[fM,<-yA (m+2) (m+2) λp q=>S p q]at a;grind
 grind
theorem Gy:∀(k:Nat) (A:Nat->Nat->Rat) (a b:Nat),a<b->b<k->(∀r,r<k->A a r=A b r)->jd k A=0
 |0,_,_,_,_,h,_=>jb
 |k+1,A,a,b,hab,hb,h=>by
  by_cases e:b=k
  .subst e;obtain⟨m,rfl⟩:∃m,b=m+1:=⟨b-1,jb⟩
   by_cases e2:a=m
   .grind[abb]
   ·--swap columns a and m
    have hs:=abb m (iw (iw A a (A m)) m (A a)) λr hr=>by grind[iw]
    have:jd (m+2) (iw (iw A a (A m)) m (A a))=-jd (m+2) A:=by
     unfold jd;have e3:∀i,jd (m+1) (λc r=>iw (iw A a (A m)) m (A a) c (DF i r))=-jd (m+1) λc r=>A c (DF i r):=λi=>by rw[<-ah2 (k:=m+1) (Gy (m+1)) (λc r=>A c (DF i r)) (a:=a) (b:=m) jb jb];refine rH _ _ _ λc r _ _=>?_;unfold iw;split<;>(try split)<;>rfl
     have e4:∀i,iw (iw A a (A m)) m (A a) (m+1) i=A (m+1) i:=λi=>by unfold iw;rw[ab jb,ab jb]
     rw[show∀x:Rat,-x=(-1)*x by intro x;grind,<-fM];exact aK λi _=>by rw[e3,e4];grind
    rw[hs]at this;grind
  .unfold jd;exact bF λi hi=>by rw[Gy k (λc r=>A c (DF i r)) a b hab jb λr hr=>h _ (Zo hi hr)];grind
def ah3{k a:Nat}(A:Nat->Nat->Rat)(ha:a<k):jd k (iw A a λ_=>0)=0:=by have:=zU k A a (λ_=>0) (λ_=>0) 1 ha;grind
def NQ{k a:Nat}(A:Nat->Nat->Rat)(ha:a<k)(x:Nat->Rat)(B:Nat->Nat->Rat):∀m,jd k (iw A a λr=>aA m λl=>x l*B l r)=aA m λl=>x l*jd k (iw A a (B l))
 |0=>ah3 A ha
 |m+1=>by have:(λr=>aA (m+1) λl=>x l*B l r)=λr=>aA m (λl=>x l*B l r)+x m*B m r:=rfl;rw[this,zU k A a _ _ _ ha,NQ A ha x B m];rfl
def ap9{k i:Nat}(A:Nat->Nat->Rat)(hi:i<k)(x w:Nat->Rat)(h:∀r,r<k->w r=aA k λl=>A l r*x l):jd k (iw A i w)=x i*jd k A:=by
 have e:jd k (iw A i w)=jd k (iw A i λr=>aA k λl=>x l*A l r):=rH k _ _ λc r _ hr=>by grind[iw]
 rw[e,NQ A hi];rw[iO hi λl hl hne=>?_,Qe];have:jd k (iw A i (A l))=0:=by
  rcases Nat.lt_or_gt_of_ne hne with hlt|hlt
  .grind[Gy,iw]
  grind[Gy,iw]
 grind
def ah4{k:Nat}(A:Nat->Nat->Rat)(x:Nat->Rat)(h:∀r,r<k->A k r=aA k λl=>A l r*x l):jd (k+1) A=(A k k-aA k λl=>A l k*x l)*jd k A:=by
 obtain⟨s,hs⟩:∃s,s=A k k-aA k λl=>A l k*x l:=⟨_,rfl⟩
 have e:jd (k+1) A=jd (k+1) (iw A k λr=>aA k (λl=>x l*A l r)+s*(if r=k then 1 else 0)):=rH _ _ _ λc r hc hr=>by grind[iw]
 rw[e,zU _ _ _ _ _ _ jb,NQ A jb,bF λl hl=>?_,<-hs]
 .have:jd (k+1) (iw A k λr=>if r=k then 1 else 0)=jd k A:=by
   rw[show jd (k+1) (iw A k λr=>if r=k then 1 else 0)=aA (k+1) λi=>sg1 (i+k)*iw A k (λr=>if r=k then 1 else 0) k i*jd k λc r=>iw A k (λr=>if r=k then 1 else 0) c (DF i r)from rfl];rw[iO (k:=k) jb λi _ hne=>?_]
   .grind[Go.Proofs.Ins.sg1,Go.Proofs.Ins.iw,Go.Proofs.Ins.rH,Go.Proofs.Ins.DF]
   grind[iw]
  grind
 grind[Gy,iw]
def D7(q:Rat):Prop:=∃z:Int,q=(z:Rat)
theorem D7.add{a b:Rat}(ha:D7 a)(hb:D7 b):D7 (a+b):=by obtain⟨x,rfl⟩:=ha;obtain⟨y,rfl⟩:=hb;exact⟨x+y,by simp⟩
def D7.mul{a b:Rat}(ha:D7 a)(hb:D7 b):D7 (a*b):=by obtain⟨x,rfl⟩:=ha;obtain⟨y,rfl⟩:=hb;exact⟨x*y,by simp⟩
def D7.neg{a:Rat}(ha:D7 a):D7 (-a):=by obtain⟨x,rfl⟩:=ha;exact⟨-x,by rfl⟩
def D7.sub{a b:Rat}(ha:D7 a)(hb:D7 b):D7 (a-b):=by rw[im];exact ha.add hb.neg
theorem D7.sum{n:Nat}{f:Nat->Rat}(h:∀i,i<n->D7 (f i)):D7 (aA n f):=by
 induction n with
 |zero=>exact⟨0,rfl⟩
 |succ n ih=>exact(ih λi hi=>h i jb).add (h n jb)
theorem D7.sg1(k:Nat):D7 (sg1 k):=by unfold Ins.sg1;split;exact⟨1,rfl⟩;exact⟨-1,rfl⟩
def TB:∀(k:Nat) (A:Nat->Nat->Rat),(∀c r,c<k->r<k->D7 (A c r))->D7 (jd k A)
 |0,_,_=>⟨1,rfl⟩
 |k+1,A,h=>by unfold jd;exact .sum λi hi=>((D7.sg1 _).mul (h k i jb hi)).mul (TB k _ λc r hc hr=>h c _ jb (Zo hi hr))
structure Bar(n k:Nat)(B W:Nat->Nat->Rat)(p:Rat):Prop where
 int:∀i j,i<n->j<=n->D7 (B i j)
 p0:p≠0
 pd:p=jd k λc r=>B r c
 ex:∃X:Nat->Nat->Rat,(∀r j,r<k->j<=n->B r j=aA k λl=>B r l*X l j)/\(∀l j,l<k->j<k->X l j=if l=j then 1 else 0)/\(∀l j,l<k->j<=n->W l j=p*X l j)/\∀i j,k<=i->i<n->j<=n->W i j=p*(B i j-aA k λl=>B i l*X l j)
def adH{n:Nat}{B:Nat->Nat->Rat}(h:∀i j,i<n->j<=n->D7 (B i j)):Bar n 0 B B 1:=
 ⟨h,jj,rfl,λ_ _=>0,λr j hr=>jb,λl j hl=>jb,λl j hl=>jb,λi j _ _ _=>by rw[aA];grind⟩
def Bar.isZ{n k:Nat}{B W:Nat->Nat->Rat}{p:Rat}(h:Bar n k B W p)(hk:k<=n):D7 p/\∀i j,i<n->j<=n->D7 (W i j):=by
 have hp:D7 p:=by rw[h.pd];exact TB k _ λc r hc hr=>h.int r c jb jb
 obtain⟨X,h1,h2,h3,h4⟩:=h.ex;have h5:∀l j,l<k->j<=n->D7 (p*X l j):=λl j hl hj=>by
  have:=ap9 (k:=k) (i:=l) (λc r=>B r c) hl (λl=>X l j) (λr=>B r j) λr hr=>h1 r j hr hj;rw[fi,h.pd,<-this];refine TB k _ λc r hc hr=>?_;unfold iw;split
  .exact h.int r j jb hj
  .exact h.int r c jb jb
 refine⟨hp,λi j hi hj=>?_⟩;by_cases hik:i<k
 .grind
 .rw[h4 i j jb hi hj];have:p*(B i j-aA k λl=>B i l*X l j)=p*B i j-aA k λl=>B i l*(p*X l j):=by
   have e:aA k (λl=>B i l*(p*X l j))=p*aA k λl=>B i l*X l j:=by rw[<-fM];grind
   grind
  rw[this];exact(hp.mul (h.int i j hi hj)).sub (.sum λl hl=>(h.int i l hi jb).mul (h5 l j hl hj))
def Iy(W:Nat->Nat->Rat)(k:Nat)(p:Rat)(i j:Nat):Rat:=if i=k then W k j else(W k k*W i j-W i k*W k j)/p
def Bar.swap{n k:Nat}{B W:Nat->Nat->Rat}{p:Rat}(h:Bar n k B W p)(hk:k<n){a:Nat}(ha:k<=a)(han:a<n):Bar n k (λi=>B (swp k a i)) (λi=>W (swp k a i)) p:=by
 obtain⟨X,h1,h2,h3,h4⟩:=h.ex;have hlo:∀i,i<k->swp k a i=i:=λi hi=>by grind[swp]
 have hhi:∀i,k<=i->i<n->k<=swp k a i/\swp k a i<n:=λi hi hin=>by grind[swp]
 refine⟨λi j hi hj=>h.int _ j (nK hk han hi) hj,h.p0,?_,X,λr j hr hj=>?_,h2,λl j hl hj=>?_,λi j hi hin hj=>?_⟩
 .rw[h.pd];exact rH k _ _ λc r _ hr=>by rw[hlo r hr]
 .rw[hlo r hr];exact h1 r j hr hj
 .rw[hlo l hl];exact h3 l j hl hj
 grind
def Bar.step{n k:Nat}{B W:Nat->Nat->Rat}{p:Rat}(h:Bar n k B W p)(hk:k<n)(h0:W k k≠0):Bar n (k+1) B (Iy W k p) (W k k):=by
 obtain⟨X,h1,h2,h3,h4⟩:=h.ex;have hp0:=h.p0;obtain⟨R,hR⟩:∃R:Nat->Nat->Rat,R=λi j=>B i j-aA k λl=>B i l*X l j:=⟨_,rfl⟩
 have hRe:∀i j,R i j=B i j-aA k λl=>B i l*X l j:=λi j=>by rw[hR]
 have hW:∀i j,k<=i->i<n->j<=n->W i j=p*R i j:=λi j a b d=>by grind
 have hs:R k k≠0:=λe=>h0 kd;have hWk:=hW k k jp hk jb;obtain⟨Y,hY⟩:∃Y:Nat->Rat,∀j,Y j*R k k=R k j:=⟨λj=>R k j/R k k,λj=>cR hs⟩
 have hpd:W k k=jd (k+1) λc r=>B r c:=by rw[ah4 (λc r=>B r c) (λl=>X l k) λr hr=>h1 r k hr jb,<-h.pd,hWk,hRe,fi]
 have key:∀i j,aA (k+1) (λl=>B i l*(if l=k then Y j else X l j-X l k*Y j))=aA k (λl=>B i l*X l j)+R i k*Y j:=λi j=>by
  rw[aA,ae rfl];have e:aA k (λl=>B i l*(if l=k then Y j else X l j-X l k*Y j))=aA k (λl=>B i l*X l j)-aA k (λl=>B i l*X l k)*Y j:=by rw[<-oH,<-gW];exact aK λl hl=>by rw[ab jb];grind
  grind
 have hdiv:∀a:Rat,(a*p)/p=a:=λa=>by rw[Rat.div_def,Rat.mul_assoc,Rat.mul_inv_cancel _ hp0,Rat.mul_one]
 refine⟨h.int,h0,hpd,λl j=>if l=k then Y j else X l j-X l k*Y j,λr j hr hj=>?_,λl j hl hj=>?_,λl j hl hj=>?_,λi j hi hin hj=>?_⟩
 .rw[key];by_cases e:r=k
  .subst e;have:=hY j;have:=hRe r j;grind
  .have h5:=h1 r j jb hj;have h6:R r k=0:=by have:=h1 r k jb jb;rw[hRe];grind
   rw[h6];grind
 .dsimp only;by_cases e:l=k
  .rw[ae e];by_cases e2:j=k
   .rw[ae jb];have:=hY k;have e3:Y k=1:=by
     have:(Y k-1)*R k k=0:=by grind
     rcases gx.mp this with e|e
     .grind
     .exact absurd e hs
    rw[e2];exact e3
   .rw[ab jb];have h5:R k j=0:=by rw[hRe,iO (k:=j) jb λl hl hne=>by rw[h2 l j hl jb,ab hne];grind,h2 j j jb jb,ae rfl];grind
    have:=hY j;rw[h5]at this;rcases gx.mp this with e|e
    .exact e
    .exact absurd e hs
  .rw[ab e];by_cases e2:j=k
   .subst e2;have e3:Y j=1:=by
     have:=hY j;have:(Y j-1)*R j j=0:=by grind
     rcases gx.mp this with e|e
     .grind
     .exact absurd e hs
    rw[e3,ab e];grind
   .have h5:R k j=0:=by rw[hRe,iO (k:=j) jb λl hl hne=>by rw[h2 l j hl jb,ab hne];grind,h2 j j jb jb,ae rfl];grind
    have e4:Y j=0:=by
     have:=hY j;rw[h5]at this;rcases gx.mp this with e|e
     .exact e
     .exact absurd e hs
    rw[e4,h2 l j jb jb];grind
 .unfold Iy;dsimp only;by_cases e:l=k
  .subst e;rw[ae rfl,ae rfl,hWk,hW l j jp hk hj,<-hY j];grind
  .rw[ab e,ab e,hWk,hW k j jp hk hj,h3 l j jb hj,h3 l k jb jb,<-hY j];have:p*R k k*(p*X l j)-p*X l k*(p*(Y j*R k k))=(p*R k k*(X l j-X l k*Y j))*p:=by grind
   rw[this,hdiv]
 grind[Iy]
def Bar.pivot{n k:Nat}{B W:Nat->Nat->Rat}{p:Rat}(h:Bar n k B W p)(hk:k<n)(hinj:∀z:Nat->Rat,(∀i,i<n->aA n (λj=>B i j*z j)=0)->∀j,j<n->z j=0):∃i,k<=i/\i<n/\W i k≠0:=by
 refine br λhno=>?_;obtain⟨X,h1,h2,h3,h4⟩:=h.ex;have hz:∀i,i<n->aA n (λj=>B i j*(if j=k then 1 else if j<k then-X j k else 0))=0:=λi hi=>by
  have e:aA n (λj=>B i j*(if j=k then 1 else if j<k then-X j k else 0))=B i k-aA k λl=>B i l*X l k:=by
   have e1:∀m,m<=n-k-1->aA (k+1+m) (λj=>B i j*(if j=k then 1 else if j<k then-X j k else 0))=B i k-aA k λl=>B i l*X l k:=by
    intro m;induction m with
    |zero=>
     intro _
     rw[cB,aA,ae rfl]
     have:aA k (λj=>B i j*(if j=k then 1 else if j<k then-X j k else 0))=(-1)*aA k λl=>B i l*X l k:=by rw[<-fM];exact aK λj hj=>by rw[ab jb,ae hj];grind
     rw[this];grind
    |succ m ih=>
     intro hm
     rw[<-Nat.add_assoc,aA,ih jb,ab jb,ab jb];grind
   have:=e1 (n-k-1) jp;grind
  rw[e];by_cases hik:i<k
  .have:=h1 i k hik jb;grind
  .have h5:W i k=0:=br λhne=>hno ⟨i,jb,hi,hne⟩;rw[h4 i k jb hi jb]at h5;rcases gx.mp h5 with e|e
   .exact absurd e h.p0
   .exact e
 have:=hinj _ hz k hk;grind
def Bar.done{n:Nat}{B W:Nat->Nat->Rat}{p:Rat}(h:Bar n n B W p):(∀i,i<n->W i i≠0)/\∀i,i<n->aA n (λl=>B i l*(W l n/W l l))=B i n:=by
 obtain⟨X,h1,h2,h3,h4⟩:=h.ex;have hd:∀l,l<n->W l l=p:=λl hl=>by grind
 refine⟨λi hi=>by rw[hd i hi];exact h.p0,λi hi=>?_⟩;rw[h1 i n hi jp];refine aK λl hl=>?_;rw[hd l hl,h3 l n hl jp];congr 1;rw[fi,Rat.div_def,Rat.mul_assoc,Rat.mul_inv_cancel _ h.p0,Rat.mul_one]
end Go.Proofs.Ins
namespace Go.Proofs.Xe
open Go.RowKit Go.Proofs.Ins
def kG(b:Nat)(q:Rat):Prop:=∃(z:Int) (Q:Nat),0<Q/\Q<=2^b/\z.natAbs<=2^b/\q=(z:Rat)/(Q:Rat)
def abd{b:Nat}:2^b<256^(b/8+1):=by have e:(2:Nat)^(8*(b/8+1))=(2^8)^(b/8+1):=Nat.pow_mul 2 8 _;have e2:(2:Nat)^8=256:=rfl;rw[e2]at e;rw[<-e];exact Nat.pow_lt_pow_right jj jb
theorem xE{a b:Nat}(h:a<=b):2^a<=2^b:=bw jj h
def nM{a b x y:Nat}(h:x<=2^a)(h':y<=2^b):x*y<=2^(a+b):=by simp_all[dx,cn]
def kG.sz{b:Nat}{q:Rat}(h:kG b q)(hb:b<=200000000):Sz q:=by obtain⟨z,Q,h1,h2,h3,rfl⟩:=h;have a:Sm (b/8+1) (z:Rat):=Sm.int jb (cL h3 abd);have c:Sm (b/8+1) ((Q:Int):Rat):=Sm.int jb (cL jb abd);exact(a.div c (gY h1)).mono (by unfold szK;omega)
def kG.mono{a b:Nat}{q:Rat}(h:kG a q)(hab:a<=b):kG b q:=by obtain⟨z,Q,h1,h2,h3,e⟩:=h;exact⟨z,Q,h1,ag h2 (xE hab),ag h3 (xE hab),e⟩
def kG.int{b:Nat}{z:Int}(h:z.natAbs<=2^b):kG b (z:Rat):=⟨z,1,jj,gz,h,by grind⟩
def kG.mul{a b:Nat}{p q:Rat}(h:kG a p)(h':kG b q):kG (a+b) (p*q):=by obtain⟨z,Q,h1,h2,h3,rfl⟩:=h;obtain⟨y,R,k1,k2,k3,rfl⟩:=h';refine⟨z*y,Q*R,bW h1 k1,by simp_all[dx,cn],by simp_all[eO,dx,cn],?_⟩;grind
def kG.neg{a:Nat}{p:Rat}(h:kG a p):kG a (-p):=by obtain⟨z,Q,h1,h2,h3,rfl⟩:=h;refine⟨-z,Q,h1,h2,jb,?_⟩;grind
def Zp{s:Int}(h:s=1\/s=-1):(s:Rat)*(s:Rat)=1:=by rw[<-cP];rcases h with rfl|rfl<;>rfl
def atr{s:Rat}(h:s*s=1):s≠0:=λe=>by grind
def TD(z:Int):∃s:Int,(s=1\/s=-1)/\((z.natAbs:Nat):Rat)=(s:Rat)*(z:Rat):=by
 have key:∀w:Int,(z.natAbs:Int)=w->((z.natAbs:Nat):Rat)=(w:Rat):=λw h=>by
  have:(((z.natAbs:Nat):Int):Rat)=(w:Rat):=by rw[h]
  exact this
 rcases Int.le_total 0 z with h0|h0
 .grind
 .refine⟨-1,.inr rfl,?_⟩;rw[key (-z) jb,Rat.intCast_neg];grind
def kG.div{a b:Nat}{p q:Rat}(h:kG a p)(h':kG b q)(h0:q≠0):kG (a+b) (p/q):=by
 obtain⟨z,Q,h1,h2,h3,rfl⟩:=h;obtain⟨y,R,k1,k2,k3,rfl⟩:=h';have hy:y≠0:=λe=>h0 (by rw[e];grind);obtain⟨s,hs,es⟩:=TD y;have hyr:(y:Rat)≠0:=λe=>hy (eC.mp e);have hss:=Zp hs;refine⟨s*(z*R),Q*y.natAbs,bW h1 jb,by simp_all[dx,cn],?_,?_⟩
 .have e:(s*(z*R)).natAbs=z.natAbs*R:=by grind[Int.natAbs_mul]
  simp_all[dx,cn]
 .have a1:=gY h1;have a2:=gY k1;rw[cP,cP,eA,es];have e2:(((R:Nat):Int):Rat)=(R:Rat):=rfl;grind
def Cb(rows m a:Nat)(A:Nat->Nat->Rat):Prop:=∃Q:Nat,0<Q/\Q<=2^a/\∀i k,i<rows->k<m->∃z:Int,A i k=(z:Rat)/(Q:Rat)/\z.natAbs<=2^a
section
variable {rows m a b r p c:Nat} {A:Nat→Nat→Rat}
def Cb.rat(h:Cb rows m a A){i k:Nat}(hi:i<rows)(hk:k<m):kG a (A i k):=by obtain⟨Q,h1,h2,h3⟩:=h;obtain⟨z,e,hz⟩:=h3 i k hi hk;exact⟨z,Q,h1,h2,hz,e⟩
def Cb.mono(h:Cb rows m a A)(hab:a<=b):Cb rows m b A:=by obtain⟨Q,h1,h2,h3⟩:=h;refine⟨Q,h1,ag h2 (xE hab),λi k hi hk=>?_⟩;grind[Nat.le_trans,xE]
theorem Cb.elim(h:Cb rows m a A)(hr:r<rows)(hp:p<rows)(hc:c<m)(h0:A p c≠0):Cb rows m (2*a+1) (elim A r p c):=by
 obtain⟨Q,h1,h2,h3⟩:=h;obtain⟨P,eP,hP⟩:=h3 p c hp hc;have hP0:P≠0:=λe=>h0 (by rw[eP,e];grind);obtain⟨s,hs,es⟩:=TD P;have hPr:(P:Rat)≠0:=λe=>hP0 (eC.mp e);have hss:=Zp hs;have a1:=gY h1;have e2:(2:Nat)^(2*a+1)=2^a*2^a+2^a*2^a:=by rw[de,Nat.two_mul a,dx];omega
 have hQP:Q*P.natAbs<=2^a*2^a:=cn h2 hP;have hab:∀x:Int,(s*x).natAbs=x.natAbs:=λx=>by grind
 refine⟨Q*P.natAbs,bW h1 jb,jb,λi k hi hk=>?_⟩;obtain⟨z,ez,hz⟩:=h3 p k hp hk;unfold Ins.elim;have hs0:=atr hss;by_cases e:i=r
 .rw[ae e];refine⟨s*(z*Q),?_,?_⟩
  .rw[ez,eP,cP,cP,eA,es];have e3:(((Q:Nat):Int):Rat)=(Q:Rat):=rfl;grind
  .rw[hab,eO,gA];have:=cn hz h2;omega
 .rw[ab e];obtain⟨y,ey,hy⟩:=h3 _ k (nK hr hp hi) hk;obtain⟨w,ew,hw⟩:=h3 _ c (nK hr hp hi) hc;refine⟨s*(y*P-w*z),?_,?_⟩
  .rw[ey,ew,ez,eP,cP,Rat.intCast_sub,cP,cP,eA,es];generalize (s:Rat)=s at*;generalize (P:Rat)=P at*;grind
  .rw[hab];have k1:=cn hy hP;have k2:=cn hw hz;have k3:(y*P-w*z).natAbs<=(y*P).natAbs+(w*z).natAbs:=jb;rw[eO,eO]at k3;omega
def Jj(a:Nat):Nat->Nat
 |0=>a
 |c+1=>2*Jj a c+1
def yP(a:Nat){c:Nat}:∀{d:Nat},c<=d->Jj a c<=Jj a d
 |0,h=>by grind
 |d+1,h=>by
  rcases fg c (d+1)with h2|h2
  .have:=yP a (c:=c) (d:=d) jb;show _<=2*Jj a d+1;omega
  grind
def ah5(a:Nat):∀c,a<=Jj a c:=λc=>yP a (bz c)
def Qg(h:Cb rows m a A):∀{c:Nat},c<=m->Cb rows m (Jj a c) (ech rows A c).1
 |0,_=>h
 |c+1,hc=>by
  have ih:=Qg h (c:=c) jb;show Cb rows m (2*Jj a c+1) (OC rows (ech rows A c).1 (ech rows A c).2 c).1;generalize (ech rows A c).1=A' at*;generalize (ech rows A c).2=P;unfold OC;split
  .split
   .next h1 h2=>
    obtain⟨-,-,h3⟩:=Dl A' c (rows-P.length) P.length;exact ih.elim h1 h2 jb (h3 jb)
   .exact ih.mono jb
  .exact ih.mono jb
def Zq(rows:Nat)(A:Nat->Nat->Rat)(P:List Nat)(c:Nat)(q:Rat):Rat:=
 if P.length<rows then
  (if P.length+sJ A c P.length (rows-P.length)<rows then(if sJ A c P.length (rows-P.length)=0 then q else-q)*A (P.length+sJ A c P.length (rows-P.length)) c else q)
 else q
def uS(rows:Nat)(A:Nat->Nat->Rat):Nat->Rat
 |0=>1
 |c+1=>Zq rows (ech rows A c).1 (ech rows A c).2 c (uS rows A c)
def Zr(h:Cb rows m a A):∀{c:Nat},c<=m->kG (Jj a c) (uS rows A c)
 |0,_=>kG.int (z:=1) (gz)
 |c+1,hc=>by
  have ih:=Zr h (c:=c) jb;have hA:=Qg h (c:=c) jb;show kG (2*Jj a c+1) (Zq rows (ech rows A c).1 (ech rows A c).2 c (uS rows A c));generalize (ech rows A c).1=A' at*;generalize (ech rows A c).2=P;unfold Zq;split
  .split
   .next h1 h2=>
    refine kG.mono (kG.mul (a:=Jj a c) ?_ (hA.rat h2 jb)) jb;split
    .exact ih
    .exact ih.neg
   .exact ih.mono jb
  .exact ih.mono jb
end
def iv(s:Bool)(u:Nat):Int:=if s=true then-(u:Int)else(u:Int)
theorem xU(s:Bool)(u:Nat):(iv s u).natAbs=u:=by cases s<;>simp[iv]
def ah6(s:Bool){u:Nat}:iv s u=0↔u=0:=by cases s<;>simp[iv]
def ah7(s t:Bool)(u v:Nat):iv (false==(s==t)) (u*v)=iv s u*iv t v:=by cases s<;>cases t<;>simp[iv]<;>grind
def alE{s t:Bool}(h:s≠t)(u v:Nat):iv s (u+v)=iv s u-iv t v:=by cases s<;>cases t<;>simp_all [iv]<;>omega
def abe(s:Bool){u v:Nat}(h:v<=u):iv s (u-v)=iv s u-iv s v:=by cases s<;>simp[iv]<;>omega
def alF(s:Bool){u v:Nat}(h:¬v<=u):iv (!s) (v-u)=iv s u-iv s v:=by cases s<;>simp[iv]<;>omega
def aqa{s t:Bool}{u v:Nat}{q:Int}(h:iv s u=q*iv t v)(hv:v≠0):iv (false==(s==t)) (u/v)=q:=by
 have ha:u=q.natAbs*v:=by have:=bM Int.natAbs h;rwa[xU,eO,xU]at this
 have hq:u/v=q.natAbs:=by rw[ha];exact Nat.mul_div_cancel _ jb
 rw[hq];have h2:iv (false==(s==t)) q.natAbs*(v:Int)=q*(v:Int):=by
  have e:(u:Int)=(q.natAbs:Int)*(v:Int):=by rw[ha,dZ]
  cases s<;>cases t<;>simp[iv]at h⊢ <;>grind
 exact Int.eq_of_mul_eq_mul_right jb h2
def NU(n:Nat)(s:Nat->Bool)(u:Nat->Nat):List B:=dF n λi=>[.bool (s i),.str (bn (u i))]
def z2:[B.bool false,s0]=[.bool false,.str (bn 0)]:=rfl
def alG(n:Nat):rep [.bool false,.str (bn 0)] n=NU n (λ_=>false) λ_=>0:=Ju _ n
def aqb(n:Nat)(s:Nat->Bool)(u:Nat->Nat)(i:Nat)(h:i<n):Au (NU n s u) (i*2) 2 true=some (.agg [.bool (s i),.str (bn (u i))]):=by unfold NU;have:=yV (e:=2) (k:=0) (m:=2) (G:=λi=>[B.bool (s i),.str (bn (u i))]) true (λ_=>rfl) h jj jj;rw[cB]at this;rw[this];rfl
def alH(n:Nat)(s:Nat->Bool)(u:Nat->Nat)(i:Nat)(h:i<n):Au (NU n s u) (i*2) 1 false=some (.c (.bool (s i))):=by unfold NU;have:=yV (e:=2) (k:=0) (m:=1) (G:=λi=>[B.bool (s i),.str (bn (u i))]) false (λ_=>rfl) h jj jj;rw[cB]at this;rw[this];rfl
def alI(n:Nat)(s:Nat->Bool)(u:Nat->Nat)(i:Nat)(h:i<n):Au (NU n s u) (i*2+1) 1 false=some (.c (.str (bn (u i)))):=by unfold NU;have:=yV (e:=2) (k:=1) (m:=1) (G:=λi=>[B.bool (s i),.str (bn (u i))]) false (λ_=>rfl) h jj jj;rw[this];rfl
def aqc(n:Nat)(s:Nat->Bool)(u:Nat->Nat)(i:Nat)(t:Bool)(v:Nat)(h:i<n):yc (NU n s u) (i*2) [.bool t,.str (bn v)]=some (NU n (aT s i t) (aT u i v)):=by unfold NU;have:=Ef (e:=2) (k:=0) (vs:=[.bool t,.str (bn v)]) (G:=λi=>[B.bool (s i),.str (bn (u i))]) (λ_=>rfl) h (cI 2);rw[cB]at this;rw[this];show some _=some _;congr 1;refine dO λj _=>?_;grind[kJ,aT]
theorem yQ{n:Nat}{s t:Nat->Bool}{u v:Nat->Nat}(h:∀i,i<n->s i=t i/\u i=v i):NU n s u=NU n t v:=dO λi hi=>by grind
def att:(false==(true==true))=false:=rfl
def atu:(false==(false==false))=false:=rfl
def atv:(false==(true==false))=true:=rfl
def atw:(false==(false==true))=true:=rfl
attribute [go_sem] z2 alG aqb alH alI aqc att atu atv atw
def aqd{q:Rat}(h:q.den=1):rd q=⟨#[]⟩:=ae h
def aqe{q:Rat}(h:q.den≠1):rd q=bn q.den:=ab h
def ah8{n:Nat}(h:0<n):decide (bn n=⟨#[]⟩)=false:=aw λe=>by grind[Aj]
def lW{b u:Nat}(h:u<=2^b)(hb:b<=400000000):CQ u:=by have:=lZ (cL h abd);unfold CQ;omega
def abf{σ:St}(hW:WF σ)(q:Rat):aC EN 178 [.agg [.bool (rn q),.str (rs q),.str (rd q)]] σ λr σ'=>r=.c (.str (bn q.den))/\Fr σ σ':=by
 refine aN (mO.o _ _) mO.h ?_;unfold mO;dsimp only;have hFr:=Fr.refl hW;by_cases h:q.den=1
 .have e:=aqd h;simp(disch:=try exact jz) only[go_sem,z3,e,gb];exact⟨by rw[h],fr⟩
 .have e:=aqe h;have hp:=q.den_pos;simp(disch:=try exact jz) only[go_sem,z3,e,ah8 hp];exact fr
def WT{σ:St}(hW:WF σ)(s t:Bool){u v:Nat}(hu:CQ u)(hv:CQ v):aC EN 179 [.agg [.bool s,.str (bn u)],.agg [.bool t,.str (bn v)]] σ λr σ'=>r=.agg [.bool (false==(s==t)),.str (bn (u*v))]/\Fr σ σ':=by refine aN (kZ.o _ _) kZ.h ?_;unfold kZ;dsimp only;have hFr:=Fr.refl hW;simp(disch:=try exact jz) only[go_sem,z3];exact fr
def ah9{σ:St}(hW:WF σ)(s t:Bool){u v:Nat}(hu:CQ u)(hv:CQ v):aC EN 180 [.agg [.bool s,.str (bn u)],.agg [.bool t,.str (bn v)]] σ λr σ'=>(∃w x,r=.agg [.bool w,.str (bn x)]/\iv w x=iv s u-iv t v)/\Fr σ σ':=by
 refine aN (lu.o _ _) lu.h ?_;unfold lu;dsimp only;have hFr:=Fr.refl hW;by_cases hst:s=t
 .subst hst;have e0:(false==(s==s))=false:=by simp
  by_cases h:v<=u
  .have:=abe s h;simp(disch:=try exact jz) only[go_sem,z3,e0,h,if_true,if_false];exact⟨⟨_,_,rfl,abe s h⟩,fr⟩
  .have h2:u<=v:=jb;simp(disch:=try exact jz) only[go_sem,z3,e0,h,h2,if_true,if_false];exact⟨⟨_,_,rfl,alF s h⟩,fr⟩
 .have e0:(false==(s==t))=true:=by grind
  simp(disch:=try exact jz) only[go_sem,z3,e0];exact⟨⟨_,_,rfl,alE hst u v⟩,fr⟩
def alJ{σ:St}(hW:WF σ)(s t:Bool){u v:Nat}(hu:CQ u)(hv:CQ v)(h0:0<v):aC EN 181 [.agg [.bool s,.str (bn u)],.agg [.bool t,.str (bn v)]] σ λr σ'=>r=.agg [.bool (false==(s==t)),.str (bn (u/v))]/\Fr σ σ':=by refine aN (lU.o _ _) lU.h ?_;unfold lU;dsimp only;have hFr:=Fr.refl hW;simp(disch:=try exact jz) only[go_sem,z3];exact fr
def Qh{q:Rat}{z:Int}{Q:Nat}(hQ:0<Q)(h:q=(z:Rat)/(Q:Rat)):q.den∣Q/\q.num.natAbs<=z.natAbs:=by
 have e:q=Ins.fr (!(decide (z<0)==decide ((Q:Int)<0))) z.natAbs (Q:Int).natAbs:=by rw[Ll z Q jb];exact h
 rw[gA]at e;obtain⟨h1,h2⟩:=Xu (n:=!(decide (z<0)==decide ((Q:Int)<0))) (x:=z.natAbs) hQ;rw[<-e]at h1 h2;exact⟨by grind[Nat.div_dvd_of_dvd,Nat.gcd_dvd_right],by simp_all[l7,ff]⟩
def aqf(q:Rat){c:Nat}(h:q.den∣c):((iv (rn q) (q.num.natAbs*(c/q.den)):Int):Rat)=(c:Rat)*q:=by
 obtain⟨k,rfl⟩:=h;have hd:=q.den_pos;rw[Nat.mul_div_cancel_left _ hd];have e1:iv (rn q) (q.num.natAbs*k)=q.num*k:=by grind[iv,rn]
 have e2:(q.num:Rat)=q*(q.den:Rat):=by grind[gY,Rat.mkRat_self,Rat.mkRat_eq_div]
 have e3:((k:Int):Rat)=(k:Rat):=rfl;rw[e1,cP,e2,eA,e3];grind
theorem Zt(c d:Nat):c*(d/Nat.gcd c d)=Nat.lcm c d:=by simp_all[Nat.lcm,Nat.mul_div_assoc,Nat.gcd_dvd_right]
def alK(s:Nat->Bool)(j k:Nat):Bool:=if k<j then s k else false
def alL(u:Nat->Nat)(j k:Nat):Nat:=if k<j then u k else 0
def aia{m j:Nat}{s:Nat->Bool}{u:Nat->Nat}:NU m (aT (alK s j) j (s j)) (aT (alL u j) j (u j))=NU m (alK s (j+1)) (alL u (j+1)):=yQ λk _=>by grind[aT,alK,alL]
def Zu{σ:St}(hW:WF σ){p:Nat->Prop}{v:B}{m:Nat}{r:Nat->Rat}(hr:jB p σ.h v m r)(hm:m<=17){Q b:Nat}(hQ:0<Q)(hQb:Q<=2^b)(hb:b<=50000000)(hz:∀k,k<m->∃z:Int,r k=(z:Rat)/(Q:Rat)/\z.natAbs<=2^b):
  aC EN 147 [.c v] σ λx σ'=>(∃nb c,x=.c (.sl nb 0 m (.ex m))/\σ'.h nb=some ⟨NU m (λk=>rn (r k)) (λk=>(r k).num.natAbs*(c/(r k).den)),none⟩/\σ.aj<=nb/\nb<σ'.aj/\0<c/\c∣Q/\∀k,k<m->(r k).den∣c)/\Fr σ σ':=by
 refine aN (pW.o _ _) pW.h ?_
 unfold pW
 dsimp only
 have hFr:=Fr.refl hW
 have hlen:=aZ.len hr
 simp(disch:=try exact jz) only[go_sem,z3,hlen]
 refine bK.mono (Q:=λex tm σ1=>ex=.exit 0/\∃c,Tr.ah tm 0=.c v/\Tr.ah tm 3=.c (.str (bn c))/\0<c/\c∣Q/\(∀k,k<m->(r k).den∣c)/\Fr σ σ1)
  (aF (λq tm σ1=>∃j c,q=m-j/\j<=m/\Tr.ah tm 0=.c v/\Tr.ah tm 3=.c (.str (bn c))/\Tr.ah tm 17=.c v/\Tr.ah tm 18=.c (.int .i64 (.ofNat m))/\Tr.ah tm 19=.c (.int .i64 (.ofNat j))/\0<c/\c∣Q/\(∀k,k<j->(r k).den∣c)/\Fr σ σ1) m ?_ ?_) ?_
 .refine⟨0,1,jb,jb,?_⟩
  simp(disch:=try exact jz) only[go_sem,z3,ap]
  exact⟨jj,Nat.one_dvd _,λk h=>absurd h jb,fr⟩
 .rintro q tm σ1 ⟨j,c,rfl,hj,t0,t3,t17,rP,t19,hc,hcQ,hcd,hf⟩
  have jQ:=Fr.refl hf.wf
  simp(disch:=try exact jz) only[go_sem,z3,t0,t3,t17,rP,t19,aH]
  refine aJ (λhlt=>?_) (λhlt=>?_)
  .obtain⟨b7,o7,c7,e7,-,dh⟩:=aZ.at3 hr hlt
   have dh:=hf.ld hW dh
   have a7:V.c (.sl b7 o7 m c7)=V.c v:=by rw[e7]
   rw[e7]at t17
   obtain⟨z,ez,hz1⟩:=hz j hlt
   obtain⟨hd,hnum⟩:=Qh hQ ez
   have hdp:=(r j).den_pos
   have zc:CQ c:=lW (ag (gw hQ hcQ) hQb) jb
   have zd:CQ (r j).den:=lW (ag (gw hQ hd) hQb) jb
   simp(disch:=try exact jz) only[go_sem,z3,t0,t3,t17,rP,t19,dh]
   refine aC.st (Fr σ1) (fr) λhF=>?_
   refine(abf hF.wf (r j)).mono ?_
   rintro _ σ2 ⟨rfl,hf2⟩
   have hF2:=(hf.trans hF).trans hf2
   have hgp:0<Nat.gcd c (r j).den:=Nat.gcd_pos_of_pos_left _ hc
   have zg:CQ (Nat.gcd c (r j).den):=lW (ag (ag (Nat.gcd_le_left _ hc) (gw hQ hcQ)) hQb) jb
   have zq:CQ ((r j).den/Nat.gcd c (r j).den):=lW (ag (ag (ff _ _) (gw hQ hd)) hQb) jb
   simp(disch:=try exact jz) only[go_sem,z3,t0,t3,t17,rP,t19]
   refine⟨m-(j+1),jb,j+1,_,rfl,jb,rfl,a7,rfl,?_,?_,λk hk=>?_,hF2⟩
   .grind[Zt,Nat.lcm_pos]
   .grind[Zt,Nat.lcm_dvd]
   grind[Zt,Nat.dvd_lcm_right]
  .have:j=m:=jb
   subst this
   simp(disch:=try exact jz) only[go_sem,z3,ap]
   grind
 .rintro _ tm σ1 ⟨rfl,c,t0,t3,hc,hcQ,hcd,hf1⟩
  have ac3:=Fr.refl hf1.wf
  have hle1:=hf1.le
  have zc:CQ c:=lW (ag (gw hQ hcQ) hQb) jb
  simp(disch:=try exact jz) only[go_sem,z3,t0,t3,hlen]
  refine aF (λq tm σ2=>∃j,q=m-j/\j<=m/\Tr.ah tm 3=.c (.str (bn c))/\Tr.ah tm 10=.c (.sl σ1.aj 0 m (.ex m))/\Tr.ah tm 41=.c v/\Tr.ah tm 42=.c (.int .i64 (.ofNat m))/\Tr.ah tm 43=.c (.int .i64 (.ofNat j))
   /\σ2.h σ1.aj=some ⟨NU m (alK (λk=>rn (r k)) j) (alL (λk=>(r k).num.natAbs*(c/(r k).den)) j),none⟩/\Fr σ1 σ2/\σ1.aj+1<=σ2.aj) m ?_ ?_
  .refine⟨0,jb,jb,?_⟩
   simp(disch:=try exact jz) only[go_sem,z3,ap,t3]
   exact⟨bM (λl=>some (Bk.mk l none)) (yQ λk _=>⟨(ab jb).symm,(ab jb).symm⟩),fr,jb⟩
  .rintro q tm σ2 ⟨j,rfl,hj,t3,t10,t41,t42,t43,q10,hf2,hnx⟩
   have Zc:=Fr.refl hf2.wf
   have hle2:=hf2.le
   simp(disch:=try exact jz) only[go_sem,z3,t3,t10,t41,t42,t43,aH]
   refine aJ (λhlt=>?_) (λhlt=>?_)
   .obtain⟨b7,o7,c7,e7,-,dh⟩:=aZ.at3 hr hlt
    have dh:=(hf1.trans hf2).ld hW dh
    have a7:V.c (.sl b7 o7 m c7)=V.c v:=by rw[e7]
    rw[e7]at t41
    obtain⟨z,ez,hz1⟩:=hz j hlt
    obtain⟨hd,hnum⟩:=Qh hQ ez
    have hdp:=(r j).den_pos
    have zd:CQ (r j).den:=lW (ag (gw hQ hd) hQb) jb
    have zn:CQ (r j).num.natAbs:=lW (ag hnum hz1) jb
    have zq:CQ (c/(r j).den):=lW (ag (ag (ff _ _) (gw hQ hcQ)) hQb) jb
    simp(disch:=try exact jz) only[go_sem,z3,t3,t10,t41,t42,t43,dh]
    refine aC.st (Fr σ2) (fr) λhF=>?_
    refine(abf hF.wf (r j)).mono ?_
    rintro _ σ3 ⟨rfl,hf3⟩
    have atx:=hf3.get hF.wf (hF.get hf2.wf q10)
    have q12:σ3.h σ2.aj=some ⟨[.bool (rn (r j)),.str (rs (r j)),.str (rd (r j))],none⟩:=hf3.get hF.wf (aB _ _ _)
    have hle3:σ2.aj+1<=σ3.aj:=hf3.le
    have hrs:rs (r j)=bn (r j).num.natAbs:=rfl
    have hF3:=(hf2.trans hF).trans hf3
    have hst:=aia (m:=m) (j:=j) (s:=λk=>rn (r k)) (u:=λk=>(r k).num.natAbs*(c/(r k).den))
    simp(disch:=try exact jz) only[go_sem,z3,t3,t10,t41,t42,t43,ak q12,q12,hrs,atx,aI atx,hst]
    exact⟨m-(j+1),jb,j+1,rfl,jb,a7,rfl,rfl,fr,jb⟩
   .have:j=m:=jb
    subst this
    simp(disch:=try exact jz) only[go_sem,z3,t10]
    refine⟨⟨_,c,rfl,?_,jb,jb,hc,hcQ,hcd⟩,hf1.trans hf2⟩
    rw[q10]
    exact bM (λl=>some (Bk.mk l none)) (yQ λk hk=>⟨ae hk,ae hk⟩)
structure yR(h:Tr Bk)(mb n m:Nat)(A:Nat->Nat->Rat)(bs:Nat->Nat)(lo hi:Nat):Prop where
 o:h mb=some ⟨ones n λi=>.sl (bs i) 0 m .opn,none⟩
 r:∀i,i<n->h (bs i)=some ⟨bU m (A i),some (3,42)⟩/\lo<=bs i/\bs i<hi
 inj:∀i j,i<n->j<n->bs i=bs j->i=j
 b:mb<lo
 l:lo<=hi
def yR.rows{h:Tr Bk}{mb n m lo hi:Nat}{A:Nat->Nat->Rat}{bs:Nat->Nat}(hM:yR h mb n m A bs lo hi){p:Nat->Prop}(hp:∀b,b=mb\/lo<=b/\b<hi->p b):dN p h (.sl mb 0 n (.ex n)) n (λ_=>m) A:=
 ⟨λi=>.sl (bs i) 0 m .opn,bf _ hM.o rfl (hp _ (.inl rfl)) (λ_=>rfl) jj (λ_ _=>rfl),λi hi=>bf _ (hM.r i hi).1 (DZ _ _ jj) (hp _ (.inr (hM.r i hi).2)) (λ_=>rfl) jj λ_ _=>rfl⟩
def Iz(m:Nat)(bs:Nat->Nat)(i:Nat)(v:B)(k:Nat):B:=if k<i then .sl (bs k) 0 m .opn else if k=i then v else .bg
def aqg{n m:Nat}{bs:Nat->Nat}:ones n (λ_=>B.bg)=ones n (Iz m bs 0 .bg):=dQ λk _=>by grind[Iz]
def aib{n m i:Nat}{bs:Nat->Nat}(v w:B):ones n (aT (Iz m bs i v) i w)=ones n (Iz m bs i w):=dQ λk _=>by grind[aT,Iz]
def adI{n m i b:Nat}{bs:Nat->Nat}:ones n (Iz m bs i (.sl b 0 m .opn))=ones n (Iz m (aT bs i b) (i+1) .bg):=dQ λk _=>by grind[Iz,aT]
def NR{σ:St}(hW:WF σ){p:Nat->Prop}{v:B}{n m:Nat}{A:Nat->Nat->Rat}(hA:dN p σ.h v n (λ_=>m) A)(hn2:n<=16)(hm:0<m)(hm2:m<=17)(hz:∀i k,i<n->k<m->Sz (A i k)):
  aC EN 146 [.c v] σ λr σ'=>(∃mb bs,r=.c (.sl mb 0 n (.ex n))/\σ.aj<=mb/\yR σ'.h mb n m A bs (mb+1) σ'.aj)/\Fr σ σ':=by
 refine aN (vT.o _ _) vT.h ?_
 unfold vT
 dsimp only
 have hFr:=Fr.refl hW
 have hlen:=hA.len
 simp(disch:=try exact jz) only[go_sem,z3,hlen]
 refine aF (λq tm σ'=>∃i bs,q=n-i/\i<=n/\Tr.ah tm 3=.c (.sl σ.aj 0 n (.ex n))/\Tr.ah tm 11=.c v/\Tr.ah tm 12=.c (.int .i64 (.ofNat n))/\Tr.ah tm 13=.c (.int .i64 (.ofNat i))
  /\σ'.h σ.aj=some ⟨ones n (Iz m bs i .bg),none⟩/\(∀k,k<i->σ'.h (bs k)=some ⟨bU m (A k),some (3,42)⟩/\σ.aj+1<=bs k/\bs k<σ'.aj)/\(∀k l,k<i->l<i->bs k=bs l->k=l)/\Fr σ σ'/\σ.aj+1<=σ'.aj) n ?_ ?_
 .refine⟨0,λ_=>0,jb,jb,?_⟩
  simp(disch:=try exact jz) only[go_sem,z3,ap]
  exact⟨bM (λl=>some (Bk.mk l none)) aqg,λk h=>absurd h jb,λk l h=>absurd h jb,fr,jb⟩
 .rintro q tm σ' ⟨i,bs,rfl,hi,t3,t11,t12,t13,q3,hr,hinj,hf,hnx⟩
  have hle:=hf.le
  simp(disch:=try exact jz) only[go_sem,z3,t3,t11,t12,t13,aH]
  refine aJ (λhlt=>?_) (λhlt=>?_)
  .obtain⟨b6,o6,c6,T,e6,-,bJ,hT⟩:=hA.at hlt
   have bJ:=hf.ld hW bJ
   have hlT:=aZ.len hT
   have a6:V.c (.sl b6 o6 n c6)=V.c v:=by rw[e6]
   rw[e6]at t11
   simp(disch:=try exact jz) only[go_sem,z3,t3,t11,t12,t13,bJ,hlT]
   refine bK.mono (Q:=λex tm σ4=>ex=.exit 2/\∃b,Tr.ah tm 3=.c (.sl σ.aj 0 n (.ex n))/\Tr.ah tm 11=.c (.sl b6 o6 n c6)/\Tr.ah tm 12=.c (.int .i64 (.ofNat n))/\Tr.ah tm 13=.c (.int .i64 (.ofNat i))
     /\σ4.h σ.aj=some ⟨ones n (Iz m bs i (aQ m b)),none⟩/\NF NoQ σ4.h b m (λc=>gK (A i c)) 3 42 σ'.aj σ4.aj/\aP [σ.aj] σ' σ4)
    (aF (λq tm σ4=>∃j b,q=m-j/\j<=m/\Tr.ah tm 3=.c (.sl σ.aj 0 n (.ex n))/\Tr.ah tm 4=.c (.int .i64 (.ofNat i))/\Tr.ah tm 11=.c (.sl b6 o6 n c6)/\Tr.ah tm 12=.c (.int .i64 (.ofNat n))/\Tr.ah tm 13=.c (.int .i64 (.ofNat i))
     /\Tr.ah tm 18=.c T/\Tr.ah tm 19=.c (.int .i64 (.ofNat m))/\Tr.ah tm 20=.c (.int .i64 (.ofNat j))
     /\σ4.h σ.aj=some ⟨ones n (Iz m bs i (aQ j b)),none⟩/\NF NoQ σ4.h b j (λc=>gK (A i c)) 3 42 σ'.aj σ4.aj/\aP [σ.aj] σ' σ4) m ?_ ?_) ?_
   .refine⟨0,σ'.aj,jb,jb,?_⟩
    simp(disch:=try exact jz) only[go_sem,z3,t3,t11,t12,t13,ap]
    exact⟨q3,NF.nil λ_=>rfl,aP.refl hf.wf⟩
   .rintro q Uz σ4 ⟨j,b,rfl,hj,t3,t4,t11,t12,t13,rP,t19,t20,q4,hN,hf4⟩
    have yH:=hf4.le
    have hg:=hN.g
    have hl1:=hN.l1
    have hl2:=hN.l2
    have hL:=hN.L
    simp(disch:=try exact jz) only[go_sem,z3,t3,t4,t11,t12,t13,rP,t19,t20,aH]
    refine aJ (λWU=>?_) (λWU=>?_)
    .obtain⟨b7,o7,c7,e7,-,dh⟩:=aZ.at3 hT WU
     have atn:=hW.dw dh
     have dh:=hf4.ld hf.wf kd (hf.ld hW dh)
     have a7:V.c (.sl b7 o7 m c7)=V.c T:=by rw[e7]
     rw[e7]at rP
     have z1:=hz i j hlt WU
     have Em:=aP.refl (ex:=[σ.aj]) hf4.wf
     have hnl:=hf4.wf.lt q4
     have eT:Iz m bs i (aQ j b) i=aQ j b:=by unfold Iz;rw[ab jb,ae rfl]
     simp(disch:=try exact jz) only[go_sem,z3,t3,t4,t11,t12,t13,rP,t19,t20,dh,Z4,ak q4,q4,eT,hg,aI q4,aib]
     refine⟨m-(j+1),jb,j+1,σ4.aj+1+1,rfl,jb,a7,rfl,rfl,?_,by repeat(first|assumption|exact aP.refl (by assumption)|exact aP.up (by assumption) kf|exact aP.up (aP.refl (by assumption)) kf|refine aP.set1 ?_ kg kf|refine aP.jV ?_ kg|refine aP.mG ?_ kg|refine aP.nG ?_ kf)⟩
     refine hN.push (hi1:=σ4.aj) (h1:=σ4.h) (λ_ _=>IX _) (λ_ _ _ _ h=>h) trivial (λ_ _ _=>rfl) jp jb jb jb ((au _ _ _ _ jb).trans (aB _ _ _)) rfl (λc h1 h2 h3=>?_) (λ_ _=>rfl) (λ_=>rfl)
     grind[au,gI]
    .have:j=m:=jb
     subst this
     simp(disch:=try exact jz) only[go_sem,z3,ap]
     exact⟨b,t3,t11,t12,t13,q4,hN,hf4⟩
   .rintro _ Uz σ4 ⟨rfl,b,t3,t11,t12,t13,q4,hN,hf4⟩
    have yH:=hf4.le
    rw[qw hm,adI]at q4
    simp(disch:=try exact jz) only[go_sem,z3,t3,t11,t12,t13]
    have hl1:=hN.l1
    have hl2:=hN.l2
    have hg:σ4.h b=some ⟨bU m (A i),some (3,42)⟩:=by
     have:=hN.g;cases m with
     |zero=>omega
     |succ m=>exact this
    refine⟨n-(i+1),jb,i+1,aT bs i b,rfl,jb,a6,rfl,q4,λk hk=>?_,λk l hk hl e=>?_,aP.to hf hf4 (λb hb=>by simp at hb;omega),jb⟩
    .by_cases e:k=i
     .subst e;rw[aS];exact⟨hg,jb,jb⟩
     .obtain⟨k1,k2,k3⟩:=hr k jb
      rw[aW _ _ _ _ e]
      exact⟨hf4.get hf.wf (by simp<;>omega) k1,k2,jb⟩
    .by_cases e1:k=i<;>by_cases e2:l=i
     .omega
     .exfalso
      rw[e1,aS,aW _ _ _ _ e2]at e
      have:=(hr l jb).2.2;omega
     .exfalso
      rw[e2,aS,aW _ _ _ _ e1]at e
      have:=(hr k jb).2.2;omega
     .rw[aW _ _ _ _ e1,aW _ _ _ _ e2]at e
      exact hinj k l jb jb e
  .have:i=n:=jb
   subst this
   simp(disch:=try exact jz) only[go_sem,z3,t3]
   refine⟨⟨σ.aj,bs,rfl,jp,⟨?_,hr,hinj,jb,jb⟩⟩,hf⟩
   rw[q3]
   exact bM (λl=>some (Bk.mk l none)) (dQ λk hk=>ae hk)
end Go.Proofs.Xe
