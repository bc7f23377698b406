import Derived.Test.YtodnohicahohdaaGreatDoorYh37
set_option linter.all false
set_option maxHeartbeats 8000000
attribute [-go_sem] Go.Proofs.Xe.azd Go.Proofs.Xe.aze Go.Proofs.Xe.azf
namespace Go.Proofs.Ins
def swp(r p i:Nat):Nat:=if i=r then p else if i=p then r else i
theorem OT(r p i:Nat):swp r p (swp r p i)=i:=by grind[swp]
theorem qQ{r p i n:Nat}(hr:r<n)(hp:p<n)(hi:i<n):swp r p i<n:=by grind[swp]
def jR{n k:Nat}(hk:k<n)(c:Rat):aF n (λi=>if i=k then c else 0)=c:=by grind[jP]
def amE{n r p:Nat}(hr:r<n)(hp:p<n)(f:Nat->Rat):aF n (λi=>f (swp r p i))=aF n f:=by
 by_cases e:r=p
 .grind[Go.Proofs.Ins.aP,Go.Proofs.Ins.swp]
 have h:aF n (λi=>f (swp r p i))=aF n (λi=>f i+((if i=r then f p-f r else 0)+(if i=p then f r-f p else 0))):=aP λi _=>by grind[swp]
 rw[h,dH,dH,jR hr,jR hp];grind
def ah1{a:Rat}(h:a≠0):a/a=1:=by grind
def IG(m:Nat)(a z:Nat->Rat):Rat:=aF m λk=>a k*z k
def elim(A:Nat->Nat->Rat)(r p c:Nat)(i k:Nat):Rat:=if i=r then A p k/A p c else A (swp r p i) k-A (swp r p i) c*(A p k/A p c)
section
variable {rows m:Nat} {A:Nat→Nat→Rat} {r p c:Nat}
theorem RX(z:Nat->Rat):IG m (elim A r p c r) z=IG m (A p) z/A p c:=by unfold IG;rw[Rat.div_def,<-sF];grind[Go.Proofs.Ins.elim]
theorem adw(z:Nat->Rat){i:Nat}(h:i≠r):IG m (elim A r p c i) z=IG m (A (swp r p i)) z-A (swp r p i) c*(IG m (A p) z/A p c):=by rw[<-RX (r:=r)];unfold IG;rw[<-iq,<-iR];grind[Go.Proofs.Ins.elim]
def amF(hr:r<rows)(hp:p<rows)(h0:A p c≠0)(z:Nat->Rat):(∀i,i<rows->IG m (A i) z=0)↔∀i,i<rows->IG m (elim A r p c i) z=0:=by grind[RX,adw,qQ,swp]
def Dep(rows m:Nat)(A:Nat->Nat->Rat):Prop:=∃u:Nat->Rat,(∃i,i<rows/\u i≠0)/\∀k,k<m->aF rows (λi=>u i*A i k)=0
def amG(hr:r<rows)(hp:p<rows)(h0:A p c≠0)(h:Dep rows m A):Dep rows m (elim A r p c):=by
 obtain⟨u,⟨q,hq,hu⟩,hs⟩:=h;obtain⟨f,ef⟩:∃f:Nat->Rat,f=λi=>if i=r then 0 else A (swp r p i) c:=⟨_,rfl⟩
 obtain⟨v,ev⟩:∃v:Nat->Rat,v=λi=>if i=r then u p*A p c+aF rows (λj=>u (swp r p j)*f j)else u (swp r p i):=⟨_,rfl⟩
 have hvr:v r=u p*A p c+aF rows (λj=>u (swp r p j)*f j):=by grind
 have hvi:∀i,i≠r->v i=u (swp r p i):=λi hi=>by grind
 refine⟨v,?_,λk hk=>?_⟩
 .refine bh λhno=>?_;have hz:∀i,i<rows->v i=0:=λi hi=>bh λhne=>hno ⟨i,hi,hne⟩;grind[swp,bP]
 .rw[<-hs k hk,<-amE hr hp λi=>u i*A i k];have e:aF rows (λi=>v i*elim A r p c i k)=aF rows (λi=>(u (swp r p i)*A (swp r p i) k-u (swp r p i)*f i*(A p k/A p c))+if i=r then aF rows (λj=>u (swp r p j)*f j)*(A p k/A p c)else 0):=aP λi _=>by
   unfold elim;by_cases e:i=r
   .subst e;rw[ab rfl,ab rfl,hvr,ef];have e1:swp i p i=p:=by unfold swp;simp
    have e2:A p k=A p k/A p c*A p c:=(cV h0).symm;simp only[e1,fX];grind
   .rw[ae e,ae e,hvi i e,ef];simp only[ae e];grind
  rw[e,dH,iR,sF,jR hr];grind
end
def wZ(A:Nat->Nat->Rat)(c:Nat):Nat->Nat->Nat
 |_,0=>0
 |r,d+1=>if A r c≠0 then 0 else wZ A c (r+1) d+1
def GX(A:Nat->Nat->Rat)(c:Nat):∀(d r:Nat),wZ A c r d<=d/\(∀i,i<wZ A c r d->A (r+i) c=0)/\(wZ A c r d<d->A (r+wZ A c r d) c≠0)
 |0,r=>⟨jp,λi hi=>by grind[wZ],λh=>jb⟩
 |d+1,r=>by
  unfold wZ;by_cases h:A r c≠0
  .rw[ab h];exact⟨jb,λi hi=>jb,λ_=>h⟩
  .rw[ae h];obtain⟨h1,h2,h3⟩:=GX A c d (r+1);refine⟨jb,λi hi=>?_,λhlt=>?_⟩
   .cases i with
    |zero=>simpa using Classical.not_not.mp h
    |succ i=>have:=h2 i jb;rwa[show r+(i+1)=r+1+i by omega]
   .have:=h3 jb;rwa[show r+(wZ A c (r+1) d+1)=r+1+wZ A c (r+1) d by omega]
def TY(rows:Nat)(A:Nat->Nat->Rat)(P:List Nat)(c:Nat):(Nat->Nat->Rat)×List Nat:=
 if P.length<rows then
  (if P.length+wZ A c P.length (rows-P.length)<rows then(elim A P.length (P.length+wZ A c P.length (rows-P.length)) c,P++[c])else(A,P))
 else(A,P)
def ech(rows:Nat)(A:Nat->Nat->Rat):Nat->(Nat->Nat->Rat)×List Nat
 |0=>(A,[])
 |c+1=>TY rows (ech rows A c).1 (ech rows A c).2 c
def at0(P:List Nat)(a:Nat):Nat:=P.getD a 0
structure Ech(rows m:Nat)(A0 A:Nat->Nat->Rat)(P:List Nat)(c:Nat):Prop where
 len:P.length<=rows
 sol:∀z,(∀i,i<rows->IG m (A0 i) z=0)↔∀i,i<rows->IG m (A i) z=0
 dep:Dep rows m A0->Dep rows m A
 col:∀a,a<P.length->∀i,i<rows->A i (at0 P a)=if i=a then 1 else 0
 inc:∀a,a<P.length->at0 P a<c
 zero:P.length<rows->∀i,P.length<=i->i<rows->∀k,k<c->A i k=0
 lt:∀a b,b<a->a<P.length->at0 P b<at0 P a
def Au(P:List Nat)(x a:Nat):at0 (P++[x]) a=if a<P.length then at0 P a else if a=P.length then x else 0:=by grind[at0]
def amH{rows m:Nat}{A0 A:Nat->Nat->Rat}{P:List Nat}{c:Nat}(h:Ech rows m A0 A P c):Ech rows m A0 (TY rows A P c).1 (TY rows A P c).2 (c+1):=by
 unfold TY;by_cases hl:P.length<rows
 .rw[ab hl];obtain⟨h1,h2,h3⟩:=GX A c (rows-P.length) P.length;by_cases hp:P.length+wZ A c P.length (rows-P.length)<rows
  .rw[ab hp];have h0:=h3 jb;have hge:P.length<=P.length+wZ A c P.length (rows-P.length):=jb;generalize P.length+wZ A c P.length (rows-P.length)=p at hp h0 hge;dsimp only;have hzr:∀i,i<rows->P.length<=i->P.length<=swp P.length p i:=λi hi hle=>by grind[swp]
   refine⟨by grind,λz=>(h.sol z).trans (amF hl hp h0 z),λhd=>amG hl hp h0 (h.dep hd),λa ha i hi=>?_,λa ha=>?_,λ_ i hle hi k hk=>?_,λa b hb ha=>?_⟩
   .rw[Au];rw[az,bz]at ha;by_cases hlt:a<P.length
    .rw[ab hlt];have hz:A p (at0 P a)=0:=h.zero hl p hge hp _ (h.inc a hlt);unfold elim;by_cases e:i=P.length
     .grind
     .rw[ae e,hz,h.col a hlt _ (qQ hl hp hi)];grind[swp]
    grind[elim]
   .rw[Au];rw[az,bz]at ha;by_cases hlt:a<P.length
    .rw[ab hlt];have:=h.inc a hlt;omega
    grind
   .rw[az,bz]at hle;unfold elim;rw[ae jb];have h5:=hzr i hi jb;have h6:=qQ hl hp hi;by_cases e:k=c
    .subst e;rw[ah1 h0];grind
    .rw[h.zero hl _ h5 h6 k jb,h.zero hl p hge hp k jb];grind
   .rw[Au,Au];rw[az,bz]at ha;rw[ab (show b<P.length by omega)];by_cases hlt:a<P.length
    .rw[ab hlt];exact h.lt a b hb hlt
    .rw[ae hlt,ab jb];exact h.inc b jb
  .rw[ae hp];dsimp only;refine⟨h.len,h.sol,h.dep,h.col,λa ha=>by have:=h.inc a ha;omega,λ_ i hle hi k hk=>?_,h.lt⟩;by_cases e:k=c
   .subst e;have:=h2 (i-P.length) jb;rwa[show P.length+(i-P.length)=i by omega]at this
   .exact h.zero hl i hle hi k jb
 .rw[ae hl];dsimp only;exact⟨h.len,h.sol,h.dep,h.col,λa ha=>by have:=h.inc a ha;omega,λhlt=>absurd hlt hl,h.lt⟩
def LY(rows m:Nat)(A:Nat->Nat->Rat):∀c,Ech rows m A (ech rows A c).1 (ech rows A c).2 c
 |0=>⟨aR _,λ_=>Iff.rfl,id,λa ha=>by grind[ech],λa ha=>by grind[ech],λ_ i _ _ k hk=>jb,λa b _ ha=>by grind[ech]⟩
 |c+1=>amH (LY rows m A c)
theorem GY{P:List Nat}{k:Nat}(h:k∈P):∃a,a<P.length/\at0 P a=k:=by obtain⟨a,ha,e⟩:=aD h;exact⟨a,ha,by grind[at0]⟩
theorem jy{P:List Nat}{a:Nat}(h:a<P.length):at0 P a∈P:=by grind[at0]
def aq9{rows m:Nat}{A0 A:Nat->Nat->Rat}{P:List Nat}(h:Ech rows m A0 A P m){f:Nat}(hf:f<m)(hfP:f∉P){x:Nat->Rat}(h1:x f=1)(h2:∀a,a<P.length->x (at0 P a)=-A a f)(h3:∀k,k<m->k∉P->k≠f->x k=0):
  ∀i,i<rows->IG m (A0 i) x=0:=by
 rw[h.sol]
 intro i hi
 unfold IG
 by_cases hlt:i<P.length
 .have e:aF m (λk=>A i k*x k)=aF m (λk=>(if k=f then A i f else 0)+if k=at0 P i then-A i f else 0):=aP λk hk=>by
   by_cases hkf:k=f
   .subst hkf;rw[ab rfl,ae (λe=>hfP (by rw[e];exact jy hlt)),h1];grind
   .rw[ae hkf];by_cases hkP:k∈P
    .obtain⟨a,ha,e⟩:=GY hkP;subst e;rw[h.col a ha i hi,h2 a ha];by_cases e:i=a
     .subst e;rw[ab rfl,ab rfl];grind
     .rw[ae e,ae ?_]
      .grind
      .intro e2;rcases Nat.lt_or_gt_of_ne e with hh|hh
       .have:=h.lt a i hh ha;omega
       .have:=h.lt i a hh hlt;omega
    .rw[h3 k hk hkP hkf,ae (λe=>hkP (by rw[e];exact jy hlt))];grind
  have hin:=h.inc i hlt
  rw[e,dH,jR hf,jR hin];grind
 .exact bP λk hk=>by rw[h.zero jb i jb hi k hk];grind
def ara{n:Nat}{A0 A:Nat->Nat->Rat}{P:List Nat}(h:Ech n n A0 A P n)(hd:Dep n n A0):∃f,f<n/\f∉P:=by
 refine bh λhno=>?_;have hall:∀k,k<n->k∈P:=λk hk=>bh λhk2=>hno ⟨k,hk,hk2⟩;have hlen:P.length=n:=by
  have h1:(List.range n).length<=P.length:=by refine(List.nodup_range.sublist (List.Sublist.refl _)).length_le_of_subset λk hk=>hall k kd
  have:=h.len;grind
 obtain⟨u,⟨i,hi,hu⟩,hs⟩:=h.dep hd;apply hu;have h1:=hs (at0 P i) (h.inc i jb);have h2:aF n (λj=>u j*A j (at0 P i))=aF n λj=>if j=i then u i else 0:=aP λj hj=>by rw[h.col i jb j hj];grind
 simp_all[jR]
def adx(n:Nat)(f:Nat->Rat):aF (n+1) f=f 0+aF n λi=>f (i+1):=by
 induction n with
 |zero=>grind[aF]
 |succ n ih=>grind[aF]
def LZ{n:Nat}(g:Nat->Rat):∀l:List Nat,l.Nodup->(∀i∈l,i<n)->aF n (λi=>if i∈l then g i else 0)=aF l.length λa=>g (at0 l a)
 |[],_,_=>by grind[bP]
 |x::t,hn,hl=>by
  rw[gy]at hn;rw[bA,adx];have e:aF n (λi=>if i∈x::t then g i else 0)=aF n λi=>(if i=x then g x else 0)+if i∈t then g i else 0:=aP λi _=>by grind
  rw[e,dH,jR (hl x kc),LZ g t hn.2 λi hi=>hl i (by simp[hi])];congr 1
def rX(l:List Nat)(v:Nat->Rat)(i:Nat):Rat:=if i∈l then v (l.idxOf i)else 0
theorem G5{l:List Nat}(hn:l.Nodup)(v:Nat->Rat){a:Nat}(ha:a<l.length):rX l v (at0 l a)=v a:=by grind[rX,jy,at0]
theorem wK{l:List Nat}{v:Nat->Rat}{i:Nat}(h:i∉l):rX l v i=0:=ae h
def x9(M:Nat->Nat->Rat)(l:List Nat)(a b:Nat):Rat:=M (at0 l a) (at0 l b)
def arb{n:Nat}{M:Nat->Nat->Rat}{l:List Nat}(hn:l.Nodup)(hl:∀i∈l,i<n)(v:Nat->Rat)(j:Nat):mv n M (rX l v) j=aF l.length λb=>M j (at0 l b)*v b:=by
 unfold mv;have e:aF n (λi=>M j i*rX l v i)=aF n λi=>if i∈l then M j i*rX l v i else 0:=aP λi _=>by grind[wK]
 simp_all[LZ,aP,G5]
def XW(n:Nat)(M:Nat->Nat->Rat)(l:List Nat):Prop:=∀i∈l,∀j,j<n->j∉l->M j i=0
section
variable {n:Nat} {M:Nat→Nat→Rat} {l:List Nat}
def J4(hn:l.Nodup)(hl:∀i∈l,i<n)(hc:XW n M l){c v:Nat->Rat}(hc0:∀j,j<n->j∉l->c j=0)(hv:∀a,a<l.length->v a=aF l.length (λb=>x9 M l a b*v b)+c (at0 l a)):
  ∀j,j<n->rX l v j=mv n M (rX l v) j+c j:=by
 intro j hj
 rw[arb hn hl]
 by_cases h:j∈l
 .obtain⟨a,ha,e⟩:=GY h
  subst e
  rw[G5 hn v ha];exact hv a ha
 .rw[wK h,hc0 j hj h,bP λb hb=>by rw[hc _ (jy hb) j hj h];grind];grind
def aaK(hM:NI n M){w c:Nat->Rat}(hc:∀j,j<n->0<=c j)(hw:∀j,j<n->w j=mv n M w j+c j)(hl:∀j,j<n->j∉l->w j=0)(hno:∀S:Nat->Prop,(∃i,i<n/\S i)->(∀i,i<n->S i->i∈l)->¬Shut n M S):Nn n w:=by
 intro i hi;refine fw.mp λhlt=>?_;have h1:=QB hM (w:=λi=>-w i) λj hj _=>by
  have e:mv n M (λi=>-w i) j=-mv n M w j:=by
   unfold mv;have:aF n (λi=>M j i* -w i)=aF n λi=>(-1)*(M j i*w i):=aP λi _=>by grind
   rw[this,iq];grind
  grind
 refine hno (λi=>0< -w i) ⟨i,hi,by grind⟩ (λk hk h=>bh λhk2=>?_) h1;grind
def amI(hM:NI n M)(hn:l.Nodup)(hl:∀i∈l,i<n)(hc:XW n M l)(hno:∀S:Nat->Prop,(∃i,i<n/\S i)->(∀i,i<n->S i->i∈l)->¬Shut n M S)
  {z:Nat->Rat}(hz:∀a,a<l.length->z a=aF l.length λb=>x9 M l a b*z b):∀a,a<l.length->z a=0:=by
 have h1:∀s:Rat,Nn n (rX l λa=>s*z a):=λs=>by
  refine aaK hM (c:=λ_=>0) (λ_ _=>aM) (J4 hn hl hc (λ_ _ _=>rfl) λa ha=>?_) (λj _ h=>wK h) hno;have e:aF l.length (λb=>x9 M l a b*(s*z b))=aF l.length λb=>s*(x9 M l a b*z b):=aP λb _=>by grind
  grind[iq]
 intro a ha
 have h2:=h1 1 (at0 l a) (hl _ (jy ha))
 have h3:=h1 (-1) (at0 l a) (hl _ (jy ha))
 grind[G5]
def ard(hM:NI n M)(hn:l.Nodup)(hl:∀i∈l,i<n)(hc:XW n M l)(hno:∀S:Nat->Prop,(∃i,i<n/\S i)->(∀i,i<n->S i->i∈l)->¬Shut n M S)
  {c v:Nat->Rat}(hcn:∀j,j<n->0<=c j) (hc0:∀j,j<n->j∉l->c j=0) (hv:∀a,a<l.length->v a=aF l.length (λb=>x9 M l a b*v b)+c (at0 l a)):Nn n (rX l v):=
 aaK hM hcn (J4 hn hl hc hc0 hv) (λj _ h=>wK h) hno
def ah2(hM:NI n M)(hn:l.Nodup)(hl:∀i∈l,i<n)(hc:XW n M l)(hmin:∀S:Nat->Prop,(∃i,i<n/\S i)->(∀i,i<n->S i->i∈l)->Shut n M S->∀i∈l,S i)
  {x:Nat->Rat}{f:Nat}(hf:f<l.length) (h1:x f=1) (hx:∀a,a<l.length->x a=aF l.length λb=>x9 M l a b*x b):
  (∀j,j<n->rX l x j=mv n M (rX l x) j)/\∀i∈l,0<rX l x i:=by
 have h2:=J4 hn hl hc (c:=λ_=>0) (v:=x) (λ_ _ _=>rfl) λa ha=>by grind
 have h3:∀j,j<n->rX l x j=mv n M (rX l x) j:=λj hj=>by grind
 refine⟨h3,hmin (λi=>0<rX l x i) ⟨at0 l f,hl _ (jy hf),?_⟩ (λi _ h=>bh λhni=>?_) (QB hM λj hj _=>by grind)⟩
 .grind[G5]
 grind[wK]
def ah3(hn:l.Nodup)(hl:∀i∈l,i<n)(hc:XW n M l)(h0:0<l.length)(h1:∀i∈l,aF n (λj=>M j i)=1)(A:Nat->Nat->Rat)(s:Rat)(hA:∀a b,a<l.length->b<l.length->A a b=s*(x9 M l a b-if a=b then 1 else 0)):Dep l.length l.length A:=by
 refine⟨λ_=>1,⟨0,h0,jj⟩,λb hb=>?_⟩;have e1:aF l.length (λa=>x9 M l a b)=1:=by
  rw[<-h1 _ (jy hb)];have:=LZ (n:=n) (λj=>M j (at0 l b)) l hn hl;unfold x9;rw[<-this];refine aP λj hj=>?_;by_cases h:j∈l
  .grind
  .rw[ae h,hc _ (jy hb) j hj h]
 have e2:aF l.length (λa=>1*A a b)=aF l.length λa=>s*(x9 M l a b-if a=b then 1 else 0):=aP λa ha=>by grind
 rw[e2,iq,iR,e1,jR hb];grind
def ah4{A:Nat->Nat->Rat}{s:Rat}(hs:s≠0)(hA:∀a b,a<l.length->b<l.length->A a b=s*(x9 M l a b-if a=b then 1 else 0)){x:Nat->Rat}(hx:∀a,a<l.length->IG l.length (A a) x=0):∀a,a<l.length->x a=aF l.length λb=>x9 M l a b*x b:=by
 intro a ha;have h:=hx a ha;unfold IG at h;have e:aF l.length (λb=>A a b*x b)=aF l.length λb=>s*(x9 M l a b*x b-if b=a then x a else 0):=aP λb hb=>by grind
 rw[e,iq,iR,jR ha]at h;grind
end
inductive XY(n:Nat)(M:Nat->Nat->Rat)(fr:Nat->Prop):Nat->Prop where
 |base {i:Nat}(h:fr i) (hi:i<n):XY n M fr i
 |step {i j:Nat}(h:XY n M fr i) (hj:j<n) (hm:M j i≠0):XY n M fr j
section
variable {n:Nat} {M:Nat→Nat→Rat}
def XY.lt{fr:Nat->Prop}{i:Nat}(h:XY n M fr i):i<n:=by cases h<;>assumption
def XY.sub{fr S:Nat->Prop}(h0:∀i,i<n->fr i->S i)(hS:∀i j,i<n->j<n->S i->M j i≠0->S j){i:Nat}(h:XY n M fr i):S i:=by
 induction h with
 |base h hi=>grind
 |step h hj hm ih=>exact hS _ _ h.lt hj ih hm
def Shut.rch{S:Nat->Prop}(hS:Shut n M S){i:Nat}(hi:S i){j:Nat}(h:XY n M (λk=>k=i) j):S j:=
 h.sub (λk _ e=>by grind) λa b ha hb hSa hm=>bh λhn=>hm ((hS a ha hSa).2 b hb hn)
structure RList(n:Nat)(M:Nat->Nat->Rat)(fr:Nat->Prop)(l:List Nat):Prop where
 nodup:l.Nodup
 mem:∀i,i∈l↔XY n M fr i
def RList.arf{fr:Nat->Prop}{l:List Nat}(h:RList n M fr l):XW n M l:=λi hi j hj hn=>bh λhm=>hn ((h.mem j).mpr (.step ((h.mem i).mp hi) hj hm))
def RList.lt{fr:Nat->Prop}{l:List Nat}(h:RList n M fr l):∀i∈l,i<n:=λi hi=>((h.mem i).mp hi).lt
structure J5(n:Nat)(M:Nat->Nat->Rat)(l:List Nat):Prop where
 nodup:l.Nodup
 lt:∀i∈l,i<n
 ne:0<l.length
 arf:XW n M l
 col:∀i∈l,aF n (λj=>M j i)=1
 min:∀S:Nat->Prop,(∃i,i<n/\S i)->(∀i,i<n->S i->i∈l)->Shut n M S->∀i∈l,S i
def Dry(n:Nat)(M:Nat->Nat->Rat)(l:List Nat):Prop:=∀i∈l,¬aF n (λj=>M j i)<1
def amJ(hM:NI n M){of:Nat->Prop}(hof:∀i j,i<n->j<n->of i->M j i≠0->of j){R:Nat->List Nat}(hR:∀i,i<n->of i->RList n M (λk=>k=i) (R i)){i:Nat}(hi:i<n)(hoi:of i)(hd:Dry n M (R i))
  (hmin:∀k,k<n->of k->Dry n M (R k)->(R i).length<=(R k).length):J5 n M (R i):=by
 have hr:=hR i hi hoi
 have hii:i∈R i:=(hr.mem i).mpr (.base rfl hi)
 have aAm:∀k∈R i,aF n (λj=>M j k)=1:=λk hk=>by have a:=hd k hk;have b:=hM.le k (hr.lt k hk);grind
 refine⟨hr.nodup,hr.lt,List.length_pos_of_mem hii,hr.arf,aAm,λS ⟨k,hk,hSk⟩ hsub hS a ha=>?_⟩
 have hki:k∈R i:=hsub k hk hSk
 have hok:of k:=((hr.mem k).mp hki).sub (S:=of) (λj _ e=>by grind) hof
 have hrk:=hR k hk hok
 have as6:∀b∈R k,S b:=λb hb=>hS.rch hSk ((hrk.mem b).mp hb)
 have hsub2:∀b∈R k,b∈R i:=λb hb=>hsub b (hrk.lt b hb) (as6 b hb)
 have hlen:=hmin k hk hok λb hb=>by grind
 refine as6 a (bh λhna=>?_)
 have h1:(a::R k).length<=(R i).length:=by have:(a::R k).Nodup:=gy.mpr ⟨hna,hrk.nodup⟩;refine this.length_le_of_subset λb hb=>?_;grind
 grind
def amK{of:Nat->Prop}{R:Nat->List Nat}(hR:∀i,i<n->of i->RList n M (λk=>k=i) (R i))(hno:∀k,k<n->of k->¬Dry n M (R k)):∀S:Nat->Prop,(∃i,i<n/\S i)->(∀i,i<n->S i->of i)->¬Shut n M S:=
 λS ⟨k,hk,hSk⟩ hsub hS=>hno k hk (hsub k hk hSk) λb hb=>by have hr:=hR k hk (hsub k hk hSk);rw[(hS b (hr.lt b hb) (hS.rch hSk ((hr.mem b).mp hb))).1];decide
end
section
variable {n:Nat} {g:GL} (hg:Nc n g) (c:Nat→Rat)
structure FM(least:Bool)(x:Nat->Rat)(t:Rat):Prop where
 nn:Nn n x
 t0:0<=t
 t1:t<=1
 fix:Fix (xZ hg) c t x
 least:least=true->Least (xZ hg) c t x
def inv_start(least:Bool):FM hg c least (λ_=>0) 0:=by
 have hz:Nn n (λ_=>0):=λ_ _=>aM;refine⟨hz,aM,jj,λj hj=>?_,λ_=>Least.zero _ _ _⟩;have h1:0<=gG n g (λ_=>0) j:=by
  unfold gG;have a:0<=aF n (λi=>aF (g.k i) λc=>if yF g j i c then gq g (λ_=>0) (i,c)else 0):=CY λi hi=>CY λc _=>by grind[U6]
  have b:0<=aK g.ds (dG g (λ_=>0) j):=oL λd hd=>by
   have hl:=λl hl=>vT hg hd (l:=l) hl;have e:=hg.pos d hd;have e1:0<=aK d.2 (gq g λ_=>0):=oL λl h=>U6 hg hz (hl l h);have e2:=QI (W:=d.1) (q:=λ_=>0) (q':=iQ n (gq g λ_=>0)) (λ_=>aM) (λl=>by grind[iQ,U6]) j d.2 0 0 aM
   rw[OC j _ _ hl]at e2;have e3:sJ d.1 (λ_=>0) 0 d.2 j=0:=by
    have:∀t:List fZ,sJ d.1 (λ_=>0) 0 t j=0:=λt=>by
     induction t with
     |nil=>rfl
     |cons l t ih=>
      grind[sJ]
    grind
   grind[kL,dG]
  grind
 have h2:aF n (λi=>0-gG n g (λ_=>0) i)=-aF n (λi=>gG n g (λ_=>0) i):=by rw[iR,bP (f:=λ_=>0) λ_ _=>rfl];grind
 have h3:∀i,i<n->∀c',c'<g.k i->gq g (λ_=>0) (i,c')=0:=λi hi c' hc'=>by have e:∀x:Nat,Cm (g.e i) 0 x=0:=λx=>Fp (hg.nn i hi).rk _;have e2:∀p,lN (g.e i) 0 p=0:=λp=>jv λx _=>e x;unfold gq uX;rw[e,jv λp hp=>by rw[e2];exact Fp ((hg.nn i hi).ps p hp) _];grind
 have h4:gG n g (λ_=>0) j=0:=by
  unfold gG;rw[bP λi hi=>bP λc' hc'=>by grind,jv λd hd=>?_]
  .grind
  .have hl:=λl hl=>hg.fM l (cr.mpr ⟨d,hd,hl⟩);have e:=hg.pos d hd;have e1:aK d.2 (gq g λ_=>0)=0:=jv λl h=>h3 l.1 (hl l h).1 l.2 (hl l h).2;have e3:sJ d.1 (gq g λ_=>0) 0 d.2 j=0:=by
    have:∀t:List fZ,(∀l∈t,l.1<n/\l.2<g.k l.1)->sJ d.1 (gq g λ_=>0) 0 t j=0:=λt=>by
     induction t with
     |nil=>intro _;rfl
     |cons l t ih=>
      intro h
      have hh:=h l kc
      have e5:gq g (λ_=>0) l=0:=h3 l.1 hh.1 l.2 hh.2
      unfold sJ
      rw[e5,show(0:Rat)+0=0 by grind,ih λu hu=>h u (by simp[hu])]
      split<;>grind
    exact this _ λl h=>hl l h
   unfold dG;rw[e1,e3];grind[kL]
 have:(xZ hg).G (λ_=>0) j=gG n g (λ_=>0) j:=rfl;grind
variable {x:Nat→Rat} {t:Rat} {dist:Nat→Option Rat}
def afs(hx:Nn n x){d:Nat->Rat}(hd:Nn n d)(hD:∀i,i<n->IE (g.e i) (g.k i) (x i) (dist i)){h:Rat}(hh:∀v∈kT n g dist x d,h<=v):Lin (xZ hg) x d h:=λs h0 hs j hj=>
 alF hg hx hd h0 (J3 hg hx hd hD h0 λv hv=>cF hs (hh v hv)) hj
def aaL(hx:Nn n x){d:Nat->Rat}(hd:Nn n d)(hD:∀i,i<n->IE (g.e i) (g.k i) (x i) (dist i)){h:Rat}(hh:∀v∈kT n g dist x d,h<=v):Same (xZ hg) x d h:=λs h0 hs j i hj hi=>
 aq6 hg hx hd h0 (J3 hg hx hd hD h0 λv hv=>by grind) (ah0 hg hx hd hD h0 λv hv=>by grind) hi
def ah5{n:Nat}{g:GL}(hg:Nc n g){x:Nat->Rat}{dist:Nat->Option Rat}(hD:∀i,i<n->IE (g.e i) (g.k i) (x i) (dist i)){l:List Nat}(hl:J5 n (gM n g x) l){d:Nat->Rat}(hp:∀i∈l,0<d i):kT n g dist x d≠[]:=by
 intro he;have hi0:at0 l 0∈l:=jy hl.ne;have hin:=hl.lt _ hi0;have aAm:=hl.col _ hi0;generalize at0 l 0=i at*;have hn:dist i=none:=by
  cases ho:dist i with
  |none=>rfl
  |some y=>
   have:y/d i∈kT n g dist x d:=bO.mpr (.inl ((zN n).mpr ⟨i,hin,hp i hi0,y,ho,rfl⟩))
   grind
 have hs:∀c,c<g.k i->zI (g.e i) (x i) c=0:=λc hc=>by have:=((hD i hin).no hn 0 aM c hc).2;grind
 have hgs:∀l:fZ,l∈g.fM->gs g x i l=0:=λl h=>by
  unfold gs;by_cases e:l.1=i
  .rw[ab e,e];have:=(hg.fM l h).2;grind
  grind
 have h0:∀j,gM n g x j i=0:=λj=>by
  unfold gM;rw[bP λc hc=>by grind[gs],jv λd' hd'=>?_]
  .grind
  .have hz:∀l∈d'.2,gs g x i l=0:=λl h=>hgs l (cr.mpr ⟨d',hd',h⟩);have e1:aK d'.2 (gs g x i)=0:=jv hz;have e2:jH d'.1 (gq g x) (gs g x i) 0 0 0 d'.2 j=0:=by
    have:∀(t:List fZ) (Q:Rat),(∀l∈t,gs g x i l=0)->jH d'.1 (gq g x) (gs g x i) Q 0 0 t j=0:=by
     intro t;induction t with
     |nil=>intro Q _;rfl
     |cons l t ih=>
      grind[qg,jH]
    grind
   grind[dM,qg]
 grind[bP]
def amL(hc:∀j,j<n->0<=c j){least:Bool}(hI:FM hg c least x t)(hD:∀i,i<n->IE (g.e i) (g.k i) (x i) (dist i)){l:List Nat}{d:Nat->Rat}(hp:∀i∈l,0<d i)(hz:∀i,i∉l->d i=0)(hdm:∀j,j<n->d j=mv n (gM n g x) d j)
  (hre:least=true->∀E:Nat->Prop,(∃i,i<n/\E i/\i∈l)->(∀j,j<n->E j->c j=0)->(∀j i,j<n->i<n->E j->gM n g x j i≠0->E i)->False) (ht:least=true->t<1)
  {h:Rat}(hm:h∈kT n g dist x d) (hh:∀v∈kT n g dist x d,h<=v):FM hg c least (bF x d h) t/\mu n g (bF x d h)<mu n g x:=by
 have hd:Nn n d:=λi _=>by grind
 have h0:0<=h:=ec (GV hD h hm)
 have hlin:=afs hg hI.nn hd hD hh
 have hsame:=aaL hg hI.nn hd hD hh
 refine⟨⟨hI.nn.step hd h0,hI.t0,hI.t1,Z7 (xZ hg) hI.fix hlin hdm h0 aM,λhl=>?_⟩,as5 hg hI.nn hd hD hh hm⟩
 refine acT (xZ hg) hI.nn hd hc h0 hI.fix hlin hsame hdm (λE ⟨i,hi,hE,hdi⟩ h1 h2=>hre hl E ⟨i,hi,hE,bh λhn=>?_⟩ h1 h2) (ht hl) (hI.least hl)
 grind
def amM(hc:∀j,j<n->0<=c j){least:Bool}(hI:FM hg c least x t)(hD:∀i,i<n->IE (g.e i) (g.k i) (x i) (dist i)){v:Nat->Rat}(hv:Nn n v)(hvm:∀j,j<n->v j=mv n (gM n g x) v j+c j)
  (hno:∀S:Nat->Prop,(∃i,i<n/\S i)->(∀i,i<n->S i->0<v i)->¬Shut n (gM n g x) S) (ht:t<1){h:Rat}(h0:0<=h) (h1:h<=1-t) (hh:∀v'∈kT n g dist x v,h<=v'):
  FM hg c least (bF x v h) (t+h)/\mu n g (bF x v h)<=mu n g x/\(h∈kT n g dist x v->mu n g (bF x v h)<mu n g x):=by
 have hlin:=afs hg hI.nn hv hD hh
 have hsame:=aaL hg hI.nn hv hD hh
 have:=hI.t0
 refine⟨⟨hI.nn.step hv h0,by grind,by grind,Z5 (xZ hg) hI.fix hlin hvm h0 aM,λhl=>acS (xZ hg) hI.nn hv hc h0 hI.fix hlin hsame hvm hno ht (hI.least hl)⟩,aq8 hg hI.nn (le_step hv h0),λhm=>as5 hg hI.nn hv hD hh hm⟩
structure RY(x:Nat->Rat):Prop where
 nn:Nn n x
 fix:∀j,j<n->x j=c j+gG n g x j
 grt:∀y,Nn n y->(∀j,j<n->y j<=c j+gG n g y j)->Le n y x
structure Bj(x:Nat->Rat):Prop where
 nn:Nn n x
 fix:∀j,j<n->x j=c j+gG n g x j
 lst:∀y,Nn n y->(∀j,j<n->c j+gG n g y j<=y j)->Le n x y
def awM{least:Bool}(hI:FM hg c least x 1)(hno:∀S:Nat->Prop,(∃i,i<n/\S i)->¬Shut n (gM n g x) S):RY (n:=n) (g:=g) c x:=
 ⟨hI.nn,λj hj=>by have:=hI.fix j hj;rw[il]at this;exact this,λy hy hp=>Z4 (xZ hg) hI.nn hI.fix hno hy λj hj=>by rw[il];exact hp j hj⟩
def awO(hI:FM hg c true x 1):Bj (n:=n) (g:=g) c x:=
 ⟨hI.nn,λj hj=>by have:=hI.fix j hj;rw[il]at this;exact this,λy hy hp=>hI.least rfl 1 y hy (λj hj=>by rw[il];exact hp j hj) (.inr ⟨rfl,rfl⟩)⟩
theorem RY.uniq{y:Nat->Rat}(h1:RY (n:=n) (g:=g) c x)(h2:RY (n:=n) (g:=g) c y):∀i,i<n->x i=y i:=λi hi=>by have a:=h1.grt y h2.nn (λj hj=>by rw[<-h2.fix j hj];simp) i hi;have b:=h2.grt x h1.nn (λj hj=>by rw[<-h1.fix j hj];simp) i hi;grind
end
end Go.Proofs.Ins
namespace Go.Proofs.Xe
open Go.RowKit Go.Proofs.Ins
def sz1:Sz (1:Rat):=⟨Nat.one_lt_pow jj jj,Nat.one_lt_pow jj jj⟩
def aft(a b:Rat):decide (nC a b<Int.ofNat 0)=decide (a<b):=by
 by_cases h:a<b
 .rw[aw h];exact aw (sN.mpr h)
 .rw[ap h];exact ap λh2=>h (sN.mp h2)
def arh{J:St}(hW:WF J){p:Nat->Prop}{mv:B}{n:Nat}{M:Nat->Nat->Rat}(hM:dP p J.h mv n (λ_=>n) M)(hn:n<=1000){i:Nat}(hi:i<n)(hz:∀k,k<=n->Sz (aF k λj=>M j i))(hz2:∀j,j<n->Sz (M j i)):
  aB EN 190 [.c mv,jN i] J λr J'=>r=.c (.bool (decide (aF n (λj=>M j i)<1)))/\Fr J J':=by
 refine aI (vN.o _ _) vN.h ?_
 unfold vN
 dsimp only
 have hlen:=hM.len
 have hFr:=Fr.refl hW
 have z1:=sz1
 simp(disch:=try exact jz)only[go_sem,hlen]
 refine aG (λx tm J'=>∃j,x=n-j/\j<=n/\r8 tm 1=jN i/\r8 tm 5=.c (.ptr J.aj 0)/\r8 tm 9=.c mv/\r8 tm 10=jN n/\r8 tm 11=jN j
  /\J'.h J.aj=some ⟨(rK (aF j λj=>M j i)),none⟩/\Fr J J'/\J.aj+1<=J'.aj) n ?_ ?_
 .refine⟨0,jb,jb,?_⟩
  refine WP ?_
  exact⟨rfl,fr,jb⟩
 .rintro x tm J' ⟨j,rfl,hj,t1,t5,t9,t10,t11,q5,hf,hnx⟩
  have hle:=hf.le
  have lM:=Fr.refl hf.wf
  have y1:=hz j hj
  refine W3 ?_
  refine aH (λhlt=>?_) (λhlt=>?_)
  .obtain⟨b6,o6,c6,T,rfl,-,bV,hT⟩:=hM.at hlt
   obtain⟨b7,o7,c7,rfl,-,dB⟩:=aZ.at3 hT hi
   have bV:=hf.ld hW bV
   have dB:=hf.ld hW dB
   have y2:=hz2 j hlt
   have e:(aF j λj=>M j i)+M j i=aF (j+1) λj=>M j i:=rfl
   simp(disch:=try exact jz)only[go_sem,W4,bV,dB,ay q5,q5,aJ q5,e]
   exact⟨n-(j+1),jb,j+1,rfl,jb,rfl,rfl,fr,jb⟩
  .have:j=n:=jb
   subst this
   simp(disch:=try exact jz)only[go_sem,t1,t5,ay q5,aft]
   exact hf
def OU{J:St}(hW:WF J){p p':Nat->Prop}{xv dv:B}{n:Nat}{x d:Nat->Rat}(hx:kS p J.h xv n x)(hd:kS p' J.h dv n d)(hn:n<=1000){h:Rat}(z1:Sz h)(zx:∀i,i<n->Sz (x i))(zd:∀i,i<n->Sz (d i))(zm:∀i,i<n->Sz (h*d i))(zs:∀i,i<n->Sz (x i+h*d i)):
  aB EN 98 [.c xv,.c dv,.agg (rK h)] J λr J'=>aau J J' r n (bF x d h)/\Fr J J':=by
 refine aI (vM.o _ _) vM.h ?_
 unfold vM
 dsimp only
 have hlen:=aZ.len hx
 have hFr:=Fr.refl hW
 simp(disch:=try exact jz)only[go_sem,hlen]
 refine aG (λy tm J'=>∃j,y=n-j/\j<=n/\r8 tm 0=.c xv/\r8 tm 1=.c dv/\r8 tm 5=.c (.ptr J.aj 0)/\r8 tm 7=.c (.sl (J.aj+1) 0 n (.ex n))/\r8 tm 13=jN n/\r8 tm 14=jN j
  /\J'.h J.aj=some ⟨(rK h),none⟩/\J'.h (J.aj+1)=some ⟨dh n (λi=>if i<j then bF x d h i else 0),none⟩/\Fr J J'/\J.aj+1+1<=J'.aj) n ?_ ?_
 .refine⟨0,jb,jb,?_⟩
  refine WP ?_
  exact⟨by rw[zK],fr,jb⟩
 .rintro y tm J' ⟨j,rfl,hj,t0,t1,t5,t7,t13,t14,q5,q7,hf,hnx⟩
  have hle:=hf.le
  have lM:=Fr.refl hf.wf
  refine W3 ?_
  refine aH (λhlt=>?_) (λhlt=>?_)
  .obtain⟨b6,o6,c6,rfl,-,bV⟩:=aZ.at3 hx hlt
   obtain⟨b7,o7,c7,rfl,-,dB⟩:=aZ.at3 hd hlt
   have bV:=hf.ld hW bV
   have dB:=hf.ld hW dB
   have y1:=zx j hlt
   have y2:=zd j hlt
   have y3:=zm j hlt
   have y4:=zs j hlt
   have hst:=uO n j (bF x d h)
   rw[show bF x d h j=x j+h*d j from rfl]at hst
   simp(disch:=try exact jz)only[go_sem,W4,bV,dB,ay q5,q5,q7,aJ q7,hst]
   exact⟨n-(j+1),jb,j+1,rfl,jb,rfl,rfl,fr,jb⟩
  .have:j=n:=jb
   subst this
   simp(disch:=try exact jz)only[go_sem,t7]
   exact⟨⟨_,rfl,by rw[q7,Ar],jb,jb⟩,hf⟩
abbrev aaM(h:Tr Bk)(v:B)(l:List Nat):Prop:=HL h 1 v l.length λa=>[.int .i64 (.ofNat (at0 l a))]
def RZ(l:List Nat)(v:Nat->Rat):Nat->Nat->Rat
 |0,_=>0
 |k+1,i=>if i=at0 l k then v k else RZ l v k i
theorem ah6{l:List Nat}(hn:l.Nodup)(v:Nat->Rat)(i:Nat):RZ l v l.length i=rX l v i:=by
 have h1:∀k,k<=l.length->(∀a,a<k->at0 l a≠i)->RZ l v k i=0:=by
  intro k;induction k with
  |zero=>intro _ _;rfl
  |succ k ih=>
   grind[RZ]
 have h2:∀k a,k<=l.length->a<k->at0 l a=i->RZ l v k i=v a:=by
  intro k;induction k with
  |zero=>omega
  |succ k ih=>
   grind[RZ,at0,List.getElem_inj]
 grind[GY,G5,wK]
def aaN{J:St}(hW:WF J){p:Nat->Prop}{iv vv:B}{n:Nat}{l:List Nat}{v:Nat->Rat}(hl:aaM J.h iv l)(hv:kS p J.h vv l.length v)(hn:n<=1000)(hl1:l.length<=1000)(hln:∀i∈l,i<n):
  aB EN 193 [jN n,.c iv,.c vv] J λr J'=>aau J J' r n (RZ l v l.length)/\Fr J J':=by
 refine aI (uh.o _ _) uh.h ?_
 unfold uh
 dsimp only
 have hlen:=hl.len
 have hFr:=Fr.refl hW
 simp(disch:=try exact jz)only[go_sem,hlen]
 refine aG (λy tm J'=>∃j,y=l.length-j/\j<=l.length/\r8 tm 2=.c vv/\r8 tm 7=.c (.sl J.aj 0 n (.ex n))/\r8 tm 12=.c iv/\r8 tm 13=jN l.length/\r8 tm 14=jN j
  /\J'.h J.aj=some ⟨dh n (RZ l v j),none⟩/\Fr J J'/\J.aj+1<=J'.aj) l.length ?_ ?_
 .refine⟨0,jb,jb,?_⟩
  refine WP ?_
  exact⟨rfl,fr,jb⟩
 .rintro y tm J' ⟨j,rfl,hj,t2,t7,t12,t13,t14,q7,hf,hnx⟩
  have hle:=hf.le
  have lM:=Fr.refl hf.wf
  refine W3 ?_
  refine aH (λhlt=>?_) (λhlt=>?_)
  .obtain⟨b6,o6,c6,rfl,bV⟩:=hl.one jb
   obtain⟨b7,o7,c7,rfl,-,dB⟩:=aZ.at3 hv hlt
   have bV:=hf.ld hW (bV j hlt)
   have dB:=hf.ld hW dB
   have hin:=hln _ (jy hlt)
   have hst:dh n (aO (RZ l v j) (at0 l j) (v j))=dh n (RZ l v (j+1)):=dX λi _=>rfl
   simp(disch:=try exact jz)only[go_sem,W4,bV,dB,q7,aJ q7,hst]
   exact⟨l.length-(j+1),jb,j+1,rfl,jb,rfl,rfl,fr,jb⟩
  .have:j=l.length:=jb
   subst this
   simp(disch:=try exact jz)only[go_sem,t7]
   exact⟨⟨_,rfl,q7,jb,jb⟩,hf⟩
def bls(n:Nat)(f:Nat->Bool):List B:=ones n λi=>.bool (f i)
def afu(n:Nat)(f:Nat->Bool)(i:Nat)(b:Bool):ones n (aO (λi=>B.bool (f i)) i (.bool b))=bls n (aO f i b):=dF λk _=>by grind[aO]
def amN{J:St}(hW:WF J){n b:Nat}{c:Cap}{f:Nat->Bool}(hb:J.h b=some ⟨bls n f,none⟩)(hn:n<=1000000):
  aB EN 188 [.c (.sl b 0 n c)] J λr J'=>(∃b' c' o',r=.c (.sl b' 0 n c')/\J'.h b'=some ⟨bls n f,o'⟩/\plo o'=true/\Yl o'=true/\J.aj<=b'/\b'<J'.aj)/\Fr J J':=by
 refine aI (kF.o _ _) kF.h ?_
 unfold kF
 dsimp only
 have hbl:=hW.lt hb
 unfold bls at*
 by_cases h0:n=0
 .subst h0
  simp(disch:=try exact jz)only[go_sem,hb]
  refine⟨⟨J.aj,_,none,rfl,aA _ _ _,rfl,rfl,jp,bL _⟩,?_⟩
  exact fr
 .simp(disch:=try exact jz)only[go_sem,hb]
  refine⟨⟨J.aj+1,_,_,rfl,aA _ _ _,rfl,rfl,jb,bL _⟩,?_⟩
  exact fr
def ah7(n:Nat)(o:Nat->Bool):Nat:=Bf n λi=>if o i=true then 0 else 1
def amO{n:Nat}{o:Nat->Bool}{j:Nat}(hj:j<n)(h:o j=false):ah7 n (aO o j true)<ah7 n o:=by
 refine XU (k:=j) n (λi _=>?_) hj ?_
 .grind[aO]
 grind[aO]
structure aaO(n:Nat)(M:Nat->Nat->Rat)(fr:Nat->Prop)(o0 o:Nat->Bool)(ch:Bool):Prop where
 up:∀i,o0 i=true->o i=true
 rch:∀i,i<n->o i=true->XY n M fr i
 cnt:ah7 n o+(if ch=true then 1 else 0)<=ah7 n o0
 eq:ch=false->o=o0
def aaO.set{n:Nat}{M:Nat->Nat->Rat}{fr:Nat->Prop}{o0 o:Nat->Bool}{ch:Bool}(h:aaO n M fr o0 o ch){i j:Nat}(hi:i<n)(hj:j<n)(h1:o i=true)(h2:o j=false)(h3:0<M j i):aaO n M fr o0 (aO o j true) true:=by
 refine⟨λk hk=>?_,λk hk ho=>?_,?_,λe=>by cases e⟩
 .unfold aO;split
  .rfl
  .exact h.up k hk
 .unfold aO at ho;by_cases e:k=j
  .subst e;exact .step (h.rch i hi h1) hj kd
  .rw[ae e]at ho;exact h.rch k hk ho
 .have a:=amO hj h2;have b:=h.cnt;grind
set_option maxRecDepth 10000 in
def afv{J:St}(hW:WF J){p:Nat->Prop}{mv:B}{n:Nat}{M:Nat->Nat->Rat}(hM:dP p J.h mv n (λ_=>n) M)(hn:n<=1000)(hz:∀j i,j<n->i<n->Sz (M j i))(h0:∀j i,j<n->i<n->0<=M j i)
  {b:Nat}{c:Cap}{f:Nat->Bool}(hb:J.h b=some ⟨bls n f,none⟩):
  aB EN 91 [.c mv,.c (.sl b 0 n c)] J λr J'=>(∃b' c' o' g,r=.c (.sl b' 0 n c')/\J'.h b'=some ⟨bls n g,o'⟩/\Yl o'=true/\b'<J'.aj/\∀i,i<n->(g i=true↔XY n M (λi=>f i=true) i))/\Fr J J':=by
 refine aI (vK.o _ _) vK.h ?_
 unfold vK
 dsimp only
 have hlen:=hM.len
 refine WN ?_
 refine(amN hW hb jb).mono ?_
 rintro _ σ1 ⟨⟨b1,c1,o1,rfl,hb1,hpl,hrd,hl1,hl2⟩,hf1⟩
 have hnx1:=hf1.le
 refine WN ?_
 refine aG (λq tm J'=>∃o ch,q=ah7 n o+(if ch=true then 1 else 0)/\r8 tm 0=.c mv/\r8 tm 5=.c (.sl b1 0 n c1)/\r8 tm 6=.c (.bool ch)/\J'.h b1=some ⟨bls n o,o1⟩/\Fr J J'
  /\(∀i,f i=true->o i=true)/\(∀i,i<n->o i=true->XY n M (λi=>f i=true) i)/\(ch=false->∀i j,i<n->j<n->o i=true->0<M j i->o j=true)) (ah7 n f+1) ?_ ?_
 .refine⟨f,true,rfl,?_⟩
  refine WP ?_
  exact⟨hb1,hf1,λ_ h=>h,λi hi h=>.base h hi,λe=>by cases e⟩
 .rintro q tm J' ⟨o,ch,rfl,t0,t5,t6,q1,hf,hup,hrc,hcl⟩
  cases ch with
  |false=>
   refine W0 ?_
   refine⟨⟨b1,c1,o1,o,rfl,q1,hrd,hf.wf.lt q1,λi hi=>⟨hrc i hi,λh=>?_⟩⟩,hf⟩
   exact h.sub (S:=λi=>o i=true) (λi _ h=>hup i h) λi j hi hj h1 h2=>hcl rfl i j hi hj h1 kd
  |true=>
   simp(disch:=try exact jz)only[go_sem,W4,hlen]
   refine aG (λq tm σ2=>∃j o' ch,q=n-j/\j<=n/\r8 tm 0=.c mv/\r8 tm 5=.c (.sl b1 0 n c1)/\r8 tm 6=.c (.bool ch)/\r8 tm 14=.c mv/\r8 tm 15=jN n/\r8 tm 16=jN j/\σ2.h b1=some ⟨bls n o',o1⟩/\Fr J σ2
    /\aaO n M (λi=>f i=true) o o' ch/\(ch=false->∀i j',i<n->j'<j->o i=true->0<M j' i->o j'=true)) n ?_ ?_
   .refine⟨0,o,false,jb,jb,?_⟩
    simp(disch:=try exact jz)only[go_sem,t0,t5,am]
    exact⟨q1,hf,⟨λ_ h=>h,hrc,by simp,λ_=>rfl⟩,λ_ i j' _ h=>absurd h jb⟩
   .rintro q YV σ2 ⟨j,o',ch,rfl,hj,t0,t5,t6,t14,t15,t16,q2,hf2,hP,hc2⟩
    refine W3 ?_
    refine aH (λhlt=>?_) (λhlt=>?_)
    .obtain⟨b6,o6,c6,T,rfl,-,bV,hT⟩:=hM.at hlt
     have bV:=hf2.ld hW bV
     have hTl:=aZ.len hT
     simp(disch:=try exact jz)only[go_sem,W4,bV,hTl]
     refine aG (λq tm σ3=>∃i o' ch,q=n-i/\i<=n/\r8 tm 0=.c (.sl b6 o6 n c6)/\r8 tm 5=.c (.sl b1 0 n c1)/\r8 tm 6=.c (.bool ch)/\r8 tm 7=jN j/\r8 tm 14=.c (.sl b6 o6 n c6)/\r8 tm 15=jN n/\r8 tm 16=jN j
      /\r8 tm 21=.c T/\r8 tm 22=jN n/\r8 tm 23=jN i/\σ3.h b1=some ⟨bls n o',o1⟩/\Fr J σ3
      /\aaO n M (λi=>f i=true) o o' ch/\(ch=false->(∀i j',i<n->j'<j->o i=true->0<M j' i->o j'=true)/\∀i',i'<i->o i'=true->0<M j i'->o j=true)) n ?_ ?_
     .refine⟨0,o',ch,jb,jb,?_⟩
      refine W1 ?_
      exact⟨q2,hf2,hP,λe=>⟨hc2 e,λi' h=>absurd h jb⟩⟩
     .rintro q tm3 σ3 ⟨i,o',ch,rfl,hi,t0,t5,t6,t7,t14,t15,t16,t21,t22,t23,q3,hf3,hP,hc3⟩
      refine W3 ?_
      refine aH (λhli=>?_) (λhli=>?_)
      .obtain⟨b7,o7,c7,rfl,-,dB⟩:=aZ.at3 hT hli
       have dB:=hf3.ld hW dB
       have hb7:=hf3.wf.cZ dB
       have aD7:=hf3.wf.lt q3
       have hle3:=hf3.le
       have z2:=hz j i hlt hli
       have hFr:=Fr.refl hf3.wf
       have hkeep:(ch=false->¬(o' i=true/\o' j=false/\0<M j i))->ch=false->(∀i j',i<n->j'<j->o i=true->0<M j' i->o j'=true)/\∀i',i'<i+1->o i'=true->0<M j i'->o j=true:=λhno e=>by
        refine⟨(hc3 e).1,λi' h1 h2 h3=>?_⟩;rcases dq.mp h1 with h|rfl
        .exact(hc3 e).2 i' h h2 h3
        .have:=hno e;rw[hP.eq e]at this;cases hoj:o j with
         |true=>rfl
         |false=>exact absurd ⟨h2,hoj,h3⟩ this
       unfold bls at q3
       cases hoi:o' i with
       |false=>
        simp(disch:=try exact jz)only[go_sem,W4,dB,ay q3,hrd,hoi]
        exact⟨n-(i+1),jb,i+1,o',ch,rfl,jb,rfl,rfl,q3,fr,hP,hkeep λ_ h=>by rw[hoi]at h;cases h.1⟩
       |true=>
        cases hoj:o' j with
        |true=>
         simp(disch:=try exact jz)only[go_sem,W4,dB,ay q3,hrd,hoi,hoj]
         exact⟨n-(i+1),jb,i+1,o',ch,rfl,jb,rfl,rfl,q3,fr,hP,hkeep λ_ h=>by rw[hoj]at h;cases h.2.1⟩
        |false=>
         by_cases hm:0<M j i
         .have hst:=afu n o' j true
          simp(disch:=try exact jz)only[go_sem,W4,dB,ay q3,hrd,hoi,hoj,hm,aJ q3,q3,hpl,hst]
          exact⟨n-(i+1),jb,i+1,aO o' j true,true,rfl,jb,rfl,rfl,rfl,fr,hP.set hli hlt hoi hoj hm,λe=>by cases e⟩
         .simp(disch:=try exact jz)only[go_sem,W4,dB,ay q3,hrd,hoi,hoj,hm]
          exact⟨n-(i+1),jb,i+1,o',ch,rfl,jb,rfl,rfl,q3,fr,hP,hkeep λ_ h=>hm h.2.2⟩
      .have:i=n:=jb
       subst this
       simp(disch:=try exact jz)only[go_sem,t0,t5,t6,t7,t14,t15,t16]
       refine⟨i-(j+1),jb,j+1,o',ch,rfl,jb,rfl,rfl,q3,hf3,hP,λe k j' hk hj' h1 h2=>?_⟩
       rcases dq.mp hj' with h|rfl
       .exact(hc3 e).1 k j' hk h h1 h2
       .exact(hc3 e).2 k hk h1 h2
    .have:j=n:=jb
     subst this
     simp(disch:=try exact jz)only[go_sem,t0,t5,t6]
     have hcnt:=hP.cnt
     refine⟨_,?_,o',ch,rfl,rfl,q2,hf2,λi h=>hP.up i (hup i h),hP.rch,λe i j hi hj h1 h2=>?_⟩
     .rw[ab trivial];omega
     .have he:=hP.eq e
      rw[he]at h1⊢
      exact hc2 e i j hi hj h1 h2
end Go.Proofs.Xe
