import Derived.Test.YtjhhfbbndfpdaaaGreatDoorYg38
set_option linter.all false
set_option maxHeartbeats 8000000
attribute [-go_sem] Go.Proofs.Xe.ayo Go.Proofs.Xe.ayp Go.Proofs.Xe.ayq
namespace Go.Proofs.Ins
def swp(r p i:Nat):Nat:=if i=r then p else if i=p then r else i
theorem OD(r p i:Nat):swp r p (swp r p i)=i:=by grind[swp]
theorem qF{r p i n:Nat}(hr:r<n)(hp:p<n)(hi:i<n):swp r p i<n:=by grind[swp]
def jS{n k:Nat}(hk:k<n)(c:Rat):aB n (λi=>if i=k then c else 0)=c:=by grind[jQ]
def al1{n r p:Nat}(hr:r<n)(hp:p<n)(f:Nat->Rat):aB n (λi=>f (swp r p i))=aB n f:=by
 by_cases e:r=p
 .grind[Go.Proofs.Ins.aP,Go.Proofs.Ins.swp]
 have h:aB n (λi=>f (swp r p i))=aB n (λi=>f i+((if i=r then f p-f r else 0)+(if i=p then f r-f p else 0))):=aP λi _=>by grind[swp]
 rw[h,dH,dH,jS hr,jS hp];grind
def ahC{a:Rat}(h:a≠0):a/a=1:=by grind
def Ia(m:Nat)(a z:Nat->Rat):Rat:=aB m λk=>a k*z k
def elim(A:Nat->Nat->Rat)(r p c:Nat)(i k:Nat):Rat:=if i=r then A p k/A p c else A (swp r p i) k-A (swp r p i) c*(A p k/A p c)
section
variable {rows m:Nat} {A:Nat→Nat→Rat} {r p c:Nat}
theorem Sj(z:Nat->Rat):Ia m (elim A r p c r) z=Ia m (A p) z/A p c:=by unfold Ia;rw[Rat.div_def,<-rO];grind[Go.Proofs.Ins.elim]
theorem ac4(z:Nat->Rat){i:Nat}(h:i≠r):Ia m (elim A r p c i) z=Ia m (A (swp r p i)) z-A (swp r p i) c*(Ia m (A p) z/A p c):=by rw[<-Sj (r:=r)];unfold Ia;rw[<-gX,<-iI];grind[Go.Proofs.Ins.elim]
def al2(hr:r<rows)(hp:p<rows)(h0:A p c≠0)(z:Nat->Rat):(∀i,i<rows->Ia m (A i) z=0)↔∀i,i<rows->Ia m (elim A r p c i) z=0:=by grind[Sj,ac4,qF,swp]
def Dep(rows m:Nat)(A:Nat->Nat->Rat):Prop:=∃u:Nat->Rat,(∃i,i<rows/\u i≠0)/\∀k,k<m->aB rows (λi=>u i*A i k)=0
def al3(hr:r<rows)(hp:p<rows)(h0:A p c≠0)(h:Dep rows m A):Dep rows m (elim A r p c):=by
 obtain⟨u,⟨q,hq,hu⟩,hs⟩:=h;obtain⟨f,ef⟩:∃f:Nat->Rat,f=λi=>if i=r then 0 else A (swp r p i) c:=⟨_,rfl⟩
 obtain⟨v,ev⟩:∃v:Nat->Rat,v=λi=>if i=r then u p*A p c+aB rows (λj=>u (swp r p j)*f j)else u (swp r p i):=⟨_,rfl⟩
 have hvr:v r=u p*A p c+aB rows (λj=>u (swp r p j)*f j):=by grind
 have hvi:∀i,i≠r->v i=u (swp r p i):=λi hi=>by grind
 refine⟨v,?_,λk hk=>?_⟩
 .refine br λhno=>?_;have hz:∀i,i<rows->v i=0:=λi hi=>br λhne=>hno ⟨i,hi,hne⟩;grind[swp,bK]
 .rw[<-hs k hk,<-al1 hr hp λi=>u i*A i k];have e:aB rows (λi=>v i*elim A r p c i k)=aB rows (λi=>(u (swp r p i)*A (swp r p i) k-u (swp r p i)*f i*(A p k/A p c))+if i=r then aB rows (λj=>u (swp r p j)*f j)*(A p k/A p c)else 0):=aP λi _=>by
   unfold elim;by_cases e:i=r
   .subst e;rw[ab rfl,ab rfl,hvr,ef];have e1:swp i p i=p:=by unfold swp;simp
    have e2:A p k=A p k/A p c*A p c:=(dc h0).symm;simp only[e1,gT];grind
   .rw[ae e,ae e,hvi i e,ef];simp only[ae e];grind
  rw[e,dH,iI,rO,jS hr];grind
end
def wH(A:Nat->Nat->Rat)(c:Nat):Nat->Nat->Nat
 |_,0=>0
 |r,d+1=>if A r c≠0 then 0 else wH A c (r+1) d+1
def F8(A:Nat->Nat->Rat)(c:Nat):∀(d r:Nat),wH A c r d<=d/\(∀i,i<wH A c r d->A (r+i) c=0)/\(wH A c r d<d->A (r+wH A c r d) c≠0)
 |0,r=>⟨jp,λi hi=>by grind[wH],λh=>jb⟩
 |d+1,r=>by
  unfold wH;by_cases h:A r c≠0
  .rw[ab h];exact⟨jb,λi hi=>jb,λ_=>h⟩
  .rw[ae h];obtain⟨h1,h2,h3⟩:=F8 A c d (r+1);refine⟨jb,λi hi=>?_,λhlt=>?_⟩
   .cases i with
    |zero=>simpa using Classical.not_not.mp h
    |succ i=>have:=h2 i jb;rwa[show r+(i+1)=r+1+i by omega]
   .have:=h3 jb;rwa[show r+(wH A c (r+1) d+1)=r+1+wH A c (r+1) d by omega]
def Ub(rows:Nat)(A:Nat->Nat->Rat)(P:List Nat)(c:Nat):(Nat->Nat->Rat)×List Nat:=
 if P.length<rows then
  (if P.length+wH A c P.length (rows-P.length)<rows then(elim A P.length (P.length+wH A c P.length (rows-P.length)) c,P++[c])else(A,P))
 else(A,P)
def ech(rows:Nat)(A:Nat->Nat->Rat):Nat->(Nat->Nat->Rat)×List Nat
 |0=>(A,[])
 |c+1=>Ub rows (ech rows A c).1 (ech rows A c).2 c
def at0(P:List Nat)(a:Nat):Nat:=P.getD a 0
structure Ech(rows m:Nat)(A0 A:Nat->Nat->Rat)(P:List Nat)(c:Nat):Prop where
 len:P.length<=rows
 sol:∀z,(∀i,i<rows->Ia m (A0 i) z=0)↔∀i,i<rows->Ia m (A i) z=0
 dep:Dep rows m A0->Dep rows m A
 col:∀a,a<P.length->∀i,i<rows->A i (at0 P a)=if i=a then 1 else 0
 inc:∀a,a<P.length->at0 P a<c
 zero:P.length<rows->∀i,P.length<=i->i<rows->∀k,k<c->A i k=0
 lt:∀a b,b<a->a<P.length->at0 P b<at0 P a
def Ac(P:List Nat)(x a:Nat):at0 (P++[x]) a=if a<P.length then at0 P a else if a=P.length then x else 0:=by grind[at0]
def al4{rows m:Nat}{A0 A:Nat->Nat->Rat}{P:List Nat}{c:Nat}(h:Ech rows m A0 A P c):Ech rows m A0 (Ub rows A P c).1 (Ub rows A P c).2 (c+1):=by
 unfold Ub;by_cases hl:P.length<rows
 .rw[ab hl];obtain⟨h1,h2,h3⟩:=F8 A c (rows-P.length) P.length;by_cases hp:P.length+wH A c P.length (rows-P.length)<rows
  .rw[ab hp];have h0:=h3 jb;have hge:P.length<=P.length+wH A c P.length (rows-P.length):=jb;generalize P.length+wH A c P.length (rows-P.length)=p at hp h0 hge;dsimp only;have hzr:∀i,i<rows->P.length<=i->P.length<=swp P.length p i:=λi hi hle=>by grind[swp]
   refine⟨by grind,λz=>(h.sol z).trans (al2 hl hp h0 z),λhd=>al3 hl hp h0 (h.dep hd),λa ha i hi=>?_,λa ha=>?_,λ_ i hle hi k hk=>?_,λa b hb ha=>?_⟩
   .rw[Ac];rw[ax,bR]at ha;by_cases hlt:a<P.length
    .rw[ab hlt];have hz:A p (at0 P a)=0:=h.zero hl p hge hp _ (h.inc a hlt);unfold elim;by_cases e:i=P.length
     .grind
     .rw[ae e,hz,h.col a hlt _ (qF hl hp hi)];grind[swp]
    grind[elim]
   .rw[Ac];rw[ax,bR]at ha;by_cases hlt:a<P.length
    .rw[ab hlt];have:=h.inc a hlt;omega
    grind
   .rw[ax,bR]at hle;unfold elim;rw[ae jb];have h5:=hzr i hi jb;have h6:=qF hl hp hi;by_cases e:k=c
    .subst e;rw[ahC h0];grind
    .rw[h.zero hl _ h5 h6 k jb,h.zero hl p hge hp k jb];grind
   .rw[Ac,Ac];rw[ax,bR]at ha;rw[ab (show b<P.length by omega)];by_cases hlt:a<P.length
    .rw[ab hlt];exact h.lt a b hb hlt
    .rw[ae hlt,ab jb];exact h.inc b jb
  .rw[ae hp];dsimp only;refine⟨h.len,h.sol,h.dep,h.col,λa ha=>by have:=h.inc a ha;omega,λ_ i hle hi k hk=>?_,h.lt⟩;by_cases e:k=c
   .subst e;have:=h2 (i-P.length) jb;rwa[show P.length+(i-P.length)=i by omega]at this
   .exact h.zero hl i hle hi k jb
 .rw[ae hl];dsimp only;exact⟨h.len,h.sol,h.dep,h.col,λa ha=>by have:=h.inc a ha;omega,λhlt=>absurd hlt hl,h.lt⟩
def LU(rows m:Nat)(A:Nat->Nat->Rat):∀c,Ech rows m A (ech rows A c).1 (ech rows A c).2 c
 |0=>⟨aM _,λ_=>Iff.rfl,id,λa ha=>by grind[ech],λa ha=>by grind[ech],λ_ i _ _ k hk=>jb,λa b _ ha=>by grind[ech]⟩
 |c+1=>al4 (LU rows m A c)
theorem F9{P:List Nat}{k:Nat}(h:k∈P):∃a,a<P.length/\at0 P a=k:=by obtain⟨a,ha,e⟩:=aD h;exact⟨a,ha,by grind[at0]⟩
theorem jr{P:List Nat}{a:Nat}(h:a<P.length):at0 P a∈P:=by grind[at0]
def aqj{rows m:Nat}{A0 A:Nat->Nat->Rat}{P:List Nat}(h:Ech rows m A0 A P m){f:Nat}(hf:f<m)(hfP:f∉P){x:Nat->Rat}(h1:x f=1)(h2:∀a,a<P.length->x (at0 P a)=-A a f)(h3:∀k,k<m->k∉P->k≠f->x k=0):
  ∀i,i<rows->Ia m (A0 i) x=0:=by
 rw[h.sol]
 intro i hi
 unfold Ia
 by_cases hlt:i<P.length
 .have e:aB m (λk=>A i k*x k)=aB m (λk=>(if k=f then A i f else 0)+if k=at0 P i then-A i f else 0):=aP λk hk=>by
   by_cases hkf:k=f
   .subst hkf;rw[ab rfl,ae (λe=>hfP (by rw[e];exact jr hlt)),h1];grind
   .rw[ae hkf];by_cases hkP:k∈P
    .obtain⟨a,ha,e⟩:=F9 hkP;subst e;rw[h.col a ha i hi,h2 a ha];by_cases e:i=a
     .subst e;rw[ab rfl,ab rfl];grind
     .rw[ae e,ae ?_]
      .grind
      .intro e2;rcases Nat.lt_or_gt_of_ne e with hh|hh
       .have:=h.lt a i hh ha;omega
       .have:=h.lt i a hh hlt;omega
    .rw[h3 k hk hkP hkf,ae (λe=>hkP (by rw[e];exact jr hlt))];grind
  have hin:=h.inc i hlt
  rw[e,dH,jS hf,jS hin];grind
 .exact bK λk hk=>by rw[h.zero jb i jb hi k hk];grind
def aqk{n:Nat}{A0 A:Nat->Nat->Rat}{P:List Nat}(h:Ech n n A0 A P n)(hd:Dep n n A0):∃f,f<n/\f∉P:=by
 refine br λhno=>?_;have hall:∀k,k<n->k∈P:=λk hk=>br λhk2=>hno ⟨k,hk,hk2⟩;have hlen:P.length=n:=by
  have h1:(List.range n).length<=P.length:=by refine(List.nodup_range.sublist (List.Sublist.refl _)).length_le_of_subset λk hk=>hall k kd
  have:=h.len;grind
 obtain⟨u,⟨i,hi,hu⟩,hs⟩:=h.dep hd;apply hu;have h1:=hs (at0 P i) (h.inc i jb);have h2:aB n (λj=>u j*A j (at0 P i))=aB n λj=>if j=i then u i else 0:=aP λj hj=>by rw[h.col i jb j hj];grind
 simp_all[jS]
def ac5(n:Nat)(f:Nat->Rat):aB (n+1) f=f 0+aB n λi=>f (i+1):=by
 induction n with
 |zero=>grind[aB]
 |succ n ih=>grind[aB]
def LV{n:Nat}(g:Nat->Rat):∀l:List Nat,l.Nodup->(∀i∈l,i<n)->aB n (λi=>if i∈l then g i else 0)=aB l.length λa=>g (at0 l a)
 |[],_,_=>by grind[bK]
 |x::t,hn,hl=>by
  rw[gw]at hn;rw[bL,ac5];have e:aB n (λi=>if i∈x::t then g i else 0)=aB n λi=>(if i=x then g x else 0)+if i∈t then g i else 0:=aP λi _=>by grind
  rw[e,dH,jS (hl x kc),LV g t hn.2 λi hi=>hl i (by simp[hi])];congr 1
def rG(l:List Nat)(v:Nat->Rat)(i:Nat):Rat:=if i∈l then v (l.idxOf i)else 0
theorem Gf{l:List Nat}(hn:l.Nodup)(v:Nat->Rat){a:Nat}(ha:a<l.length):rG l v (at0 l a)=v a:=by grind[rG,jr,at0]
theorem vT{l:List Nat}{v:Nat->Rat}{i:Nat}(h:i∉l):rG l v i=0:=ae h
def xq(M:Nat->Nat->Rat)(l:List Nat)(a b:Nat):Rat:=M (at0 l a) (at0 l b)
def aql{n:Nat}{M:Nat->Nat->Rat}{l:List Nat}(hn:l.Nodup)(hl:∀i∈l,i<n)(v:Nat->Rat)(j:Nat):mv n M (rG l v) j=aB l.length λb=>M j (at0 l b)*v b:=by
 unfold mv;have e:aB n (λi=>M j i*rG l v i)=aB n λi=>if i∈l then M j i*rG l v i else 0:=aP λi _=>by grind[vT]
 simp_all[LV,aP,Gf]
def XH(n:Nat)(M:Nat->Nat->Rat)(l:List Nat):Prop:=∀i∈l,∀j,j<n->j∉l->M j i=0
section
variable {n:Nat} {M:Nat→Nat→Rat} {l:List Nat}
def JV(hn:l.Nodup)(hl:∀i∈l,i<n)(hc:XH n M l){c v:Nat->Rat}(hc0:∀j,j<n->j∉l->c j=0)(hv:∀a,a<l.length->v a=aB l.length (λb=>xq M l a b*v b)+c (at0 l a)):
  ∀j,j<n->rG l v j=mv n M (rG l v) j+c j:=by
 intro j hj
 rw[aql hn hl]
 by_cases h:j∈l
 .obtain⟨a,ha,e⟩:=F9 h
  subst e
  rw[Gf hn v ha];exact hv a ha
 .rw[vT h,hc0 j hj h,bK λb hb=>by rw[hc _ (jr hb) j hj h];grind];grind
def aaD(hM:Nw n M){w c:Nat->Rat}(hc:∀j,j<n->0<=c j)(hw:∀j,j<n->w j=mv n M w j+c j)(hl:∀j,j<n->j∉l->w j=0)(hno:∀S:Nat->Prop,(∃i,i<n/\S i)->(∀i,i<n->S i->i∈l)->¬Shut n M S):Nn n w:=by
 intro i hi;refine gA.mp λhlt=>?_;have h1:=QH hM (w:=λi=>-w i) λj hj _=>by
  have e:mv n M (λi=>-w i) j=-mv n M w j:=by
   unfold mv;have:aB n (λi=>M j i* -w i)=aB n λi=>(-1)*(M j i*w i):=aP λi _=>by grind
   rw[this,gX];grind
  grind
 refine hno (λi=>0< -w i) ⟨i,hi,by grind⟩ (λk hk h=>br λhk2=>?_) h1;grind
def al5(hM:Nw n M)(hn:l.Nodup)(hl:∀i∈l,i<n)(hc:XH n M l)(hno:∀S:Nat->Prop,(∃i,i<n/\S i)->(∀i,i<n->S i->i∈l)->¬Shut n M S)
  {z:Nat->Rat}(hz:∀a,a<l.length->z a=aB l.length λb=>xq M l a b*z b):∀a,a<l.length->z a=0:=by
 have h1:∀s:Rat,Nn n (rG l λa=>s*z a):=λs=>by
  refine aaD hM (c:=λ_=>0) (λ_ _=>aR) (JV hn hl hc (λ_ _ _=>rfl) λa ha=>?_) (λj _ h=>vT h) hno;have e:aB l.length (λb=>xq M l a b*(s*z b))=aB l.length λb=>s*(xq M l a b*z b):=aP λb _=>by grind
  grind[gX]
 intro a ha
 have h2:=h1 1 (at0 l a) (hl _ (jr ha))
 have h3:=h1 (-1) (at0 l a) (hl _ (jr ha))
 grind[Gf]
def aqm(hM:Nw n M)(hn:l.Nodup)(hl:∀i∈l,i<n)(hc:XH n M l)(hno:∀S:Nat->Prop,(∃i,i<n/\S i)->(∀i,i<n->S i->i∈l)->¬Shut n M S)
  {c v:Nat->Rat}(hcn:∀j,j<n->0<=c j) (hc0:∀j,j<n->j∉l->c j=0) (hv:∀a,a<l.length->v a=aB l.length (λb=>xq M l a b*v b)+c (at0 l a)):Nn n (rG l v):=
 aaD hM hcn (JV hn hl hc hc0 hv) (λj _ h=>vT h) hno
def ahD(hM:Nw n M)(hn:l.Nodup)(hl:∀i∈l,i<n)(hc:XH n M l)(hmin:∀S:Nat->Prop,(∃i,i<n/\S i)->(∀i,i<n->S i->i∈l)->Shut n M S->∀i∈l,S i)
  {x:Nat->Rat}{f:Nat}(hf:f<l.length) (h1:x f=1) (hx:∀a,a<l.length->x a=aB l.length λb=>xq M l a b*x b):
  (∀j,j<n->rG l x j=mv n M (rG l x) j)/\∀i∈l,0<rG l x i:=by
 have h2:=JV hn hl hc (c:=λ_=>0) (v:=x) (λ_ _ _=>rfl) λa ha=>by grind
 have h3:∀j,j<n->rG l x j=mv n M (rG l x) j:=λj hj=>by grind
 refine⟨h3,hmin (λi=>0<rG l x i) ⟨at0 l f,hl _ (jr hf),?_⟩ (λi _ h=>br λhni=>?_) (QH hM λj hj _=>by grind)⟩
 .grind[Gf]
 grind[vT]
def ahE(hn:l.Nodup)(hl:∀i∈l,i<n)(hc:XH n M l)(h0:0<l.length)(h1:∀i∈l,aB n (λj=>M j i)=1)(A:Nat->Nat->Rat)(s:Rat)(hA:∀a b,a<l.length->b<l.length->A a b=s*(xq M l a b-if a=b then 1 else 0)):Dep l.length l.length A:=by
 refine⟨λ_=>1,⟨0,h0,jj⟩,λb hb=>?_⟩;have e1:aB l.length (λa=>xq M l a b)=1:=by
  rw[<-h1 _ (jr hb)];have:=LV (n:=n) (λj=>M j (at0 l b)) l hn hl;unfold xq;rw[<-this];refine aP λj hj=>?_;by_cases h:j∈l
  .grind
  .rw[ae h,hc _ (jr hb) j hj h]
 have e2:aB l.length (λa=>1*A a b)=aB l.length λa=>s*(xq M l a b-if a=b then 1 else 0):=aP λa ha=>by grind
 rw[e2,gX,iI,e1,jS hb];grind
def ahF{A:Nat->Nat->Rat}{s:Rat}(hs:s≠0)(hA:∀a b,a<l.length->b<l.length->A a b=s*(xq M l a b-if a=b then 1 else 0)){x:Nat->Rat}(hx:∀a,a<l.length->Ia l.length (A a) x=0):∀a,a<l.length->x a=aB l.length λb=>xq M l a b*x b:=by
 intro a ha;have h:=hx a ha;unfold Ia at h;have e:aB l.length (λb=>A a b*x b)=aB l.length λb=>s*(xq M l a b*x b-if b=a then x a else 0):=aP λb hb=>by grind
 rw[e,gX,iI,jS ha]at h;grind
end
inductive XI(n:Nat)(M:Nat->Nat->Rat)(fr:Nat->Prop):Nat->Prop where
 |base {i:Nat}(h:fr i) (hi:i<n):XI n M fr i
 |step {i j:Nat}(h:XI n M fr i) (hj:j<n) (hm:M j i≠0):XI n M fr j
section
variable {n:Nat} {M:Nat→Nat→Rat}
def XI.lt{fr:Nat->Prop}{i:Nat}(h:XI n M fr i):i<n:=by cases h<;>assumption
def XI.sub{fr S:Nat->Prop}(h0:∀i,i<n->fr i->S i)(hS:∀i j,i<n->j<n->S i->M j i≠0->S j){i:Nat}(h:XI n M fr i):S i:=by
 induction h with
 |base h hi=>grind
 |step h hj hm ih=>exact hS _ _ h.lt hj ih hm
def Shut.rch{S:Nat->Prop}(hS:Shut n M S){i:Nat}(hi:S i){j:Nat}(h:XI n M (λk=>k=i) j):S j:=
 h.sub (λk _ e=>by grind) λa b ha hb hSa hm=>br λhn=>hm ((hS a ha hSa).2 b hb hn)
structure RList(n:Nat)(M:Nat->Nat->Rat)(fr:Nat->Prop)(l:List Nat):Prop where
 nodup:l.Nodup
 mem:∀i,i∈l↔XI n M fr i
def RList.aqn{fr:Nat->Prop}{l:List Nat}(h:RList n M fr l):XH n M l:=λi hi j hj hn=>br λhm=>hn ((h.mem j).mpr (.step ((h.mem i).mp hi) hj hm))
def RList.lt{fr:Nat->Prop}{l:List Nat}(h:RList n M fr l):∀i∈l,i<n:=λi hi=>((h.mem i).mp hi).lt
structure JW(n:Nat)(M:Nat->Nat->Rat)(l:List Nat):Prop where
 nodup:l.Nodup
 lt:∀i∈l,i<n
 ne:0<l.length
 aqn:XH n M l
 col:∀i∈l,aB n (λj=>M j i)=1
 min:∀S:Nat->Prop,(∃i,i<n/\S i)->(∀i,i<n->S i->i∈l)->Shut n M S->∀i∈l,S i
def Dry(n:Nat)(M:Nat->Nat->Rat)(l:List Nat):Prop:=∀i∈l,¬aB n (λj=>M j i)<1
def al6(hM:Nw n M){of:Nat->Prop}(hof:∀i j,i<n->j<n->of i->M j i≠0->of j){R:Nat->List Nat}(hR:∀i,i<n->of i->RList n M (λk=>k=i) (R i)){i:Nat}(hi:i<n)(hoi:of i)(hd:Dry n M (R i))
  (hmin:∀k,k<n->of k->Dry n M (R k)->(R i).length<=(R k).length):JW n M (R i):=by
 have hr:=hR i hi hoi
 have hii:i∈R i:=(hr.mem i).mpr (.base rfl hi)
 have azL:∀k∈R i,aB n (λj=>M j k)=1:=λk hk=>by have a:=hd k hk;have b:=hM.le k (hr.lt k hk);grind
 refine⟨hr.nodup,hr.lt,List.length_pos_of_mem hii,hr.aqn,azL,λS ⟨k,hk,hSk⟩ hsub hS a ha=>?_⟩
 have hki:k∈R i:=hsub k hk hSk
 have hok:of k:=((hr.mem k).mp hki).sub (S:=of) (λj _ e=>by grind) hof
 have hrk:=hR k hk hok
 have ar0:∀b∈R k,S b:=λb hb=>hS.rch hSk ((hrk.mem b).mp hb)
 have hsub2:∀b∈R k,b∈R i:=λb hb=>hsub b (hrk.lt b hb) (ar0 b hb)
 have hlen:=hmin k hk hok λb hb=>by grind
 refine ar0 a (br λhna=>?_)
 have h1:(a::R k).length<=(R i).length:=by have:(a::R k).Nodup:=gw.mpr ⟨hna,hrk.nodup⟩;refine this.length_le_of_subset λb hb=>?_;grind
 grind
def al7{of:Nat->Prop}{R:Nat->List Nat}(hR:∀i,i<n->of i->RList n M (λk=>k=i) (R i))(hno:∀k,k<n->of k->¬Dry n M (R k)):∀S:Nat->Prop,(∃i,i<n/\S i)->(∀i,i<n->S i->of i)->¬Shut n M S:=
 λS ⟨k,hk,hSk⟩ hsub hS=>hno k hk (hsub k hk hSk) λb hb=>by have hr:=hR k hk (hsub k hk hSk);rw[(hS b (hr.lt b hb) (hS.rch hSk ((hr.mem b).mp hb))).1];decide
end
section
variable {n:Nat} {g:GL} (hg:Ny n g) (c:Nat→Rat)
structure Fb(least:Bool)(x:Nat->Rat)(t:Rat):Prop where
 nn:Nn n x
 t0:0<=t
 t1:t<=1
 fix:Fix (xg hg) c t x
 least:least=true->Least (xg hg) c t x
def inv_start(least:Bool):Fb hg c least (λ_=>0) 0:=by
 have hz:Nn n (λ_=>0):=λ_ _=>aR;refine⟨hz,aR,jj,λj hj=>?_,λ_=>Least.zero _ _ _⟩;have h1:0<=gG n g (λ_=>0) j:=by
  unfold gG;have a:0<=aB n (λi=>aB (g.k i) λc=>if wB g j i c then gq g (λ_=>0) (i,c)else 0):=BX λi hi=>BX λc _=>by grind[Vb]
  have b:0<=aK g.ds (dG g (λ_=>0) j):=oL λd hd=>by
   have hl:=λl hl=>vw hg hd (l:=l) hl;have e:=hg.pos d hd;have e1:0<=aK d.2 (gq g λ_=>0):=oL λl h=>Vb hg hz (hl l h);have e2:=QN (W:=d.1) (q:=λ_=>0) (q':=iG n (gq g λ_=>0)) (λ_=>aR) (λl=>by grind[iG,Vb]) j d.2 0 0 aR
   rw[Om j _ _ hl]at e2;have e3:rX d.1 (λ_=>0) 0 d.2 j=0:=by
    have:∀t:List gJ,rX d.1 (λ_=>0) 0 t j=0:=λt=>by
     induction t with
     |nil=>rfl
     |cons l t ih=>
      grind[rX]
    grind
   grind[kS,dG]
  grind
 have h2:aB n (λi=>0-gG n g (λ_=>0) i)=-aB n (λi=>gG n g (λ_=>0) i):=by rw[iI,bK (f:=λ_=>0) λ_ _=>rfl];grind
 have h3:∀i,i<n->∀c',c'<g.k i->gq g (λ_=>0) (i,c')=0:=λi hi c' hc'=>by have e:∀x:Nat,AU (g.e i) 0 x=0:=λx=>ER (hg.nn i hi).rk _;have e2:∀p,lU (g.e i) 0 p=0:=λp=>jo λx _=>e x;unfold gq uI;rw[e,jo λp hp=>by rw[e2];exact ER ((hg.nn i hi).ps p hp) _];grind
 have h4:gG n g (λ_=>0) j=0:=by
  unfold gG;rw[bK λi hi=>bK λc' hc'=>by grind,jo λd hd=>?_]
  .grind
  .have hl:=λl hl=>hg.fP l (cC.mpr ⟨d,hd,hl⟩);have e:=hg.pos d hd;have e1:aK d.2 (gq g λ_=>0)=0:=jo λl h=>h3 l.1 (hl l h).1 l.2 (hl l h).2;have e3:rX d.1 (gq g λ_=>0) 0 d.2 j=0:=by
    have:∀t:List gJ,(∀l∈t,l.1<n/\l.2<g.k l.1)->rX d.1 (gq g λ_=>0) 0 t j=0:=λt=>by
     induction t with
     |nil=>intro _;rfl
     |cons l t ih=>
      intro h
      have hh:=h l kc
      have e5:gq g (λ_=>0) l=0:=h3 l.1 hh.1 l.2 hh.2
      unfold rX
      rw[e5,show(0:Rat)+0=0 by grind,ih λu hu=>h u (by simp[hu])]
      split<;>grind
    exact this _ λl h=>hl l h
   unfold dG;rw[e1,e3];grind[kS]
 have:(xg hg).G (λ_=>0) j=gG n g (λ_=>0) j:=rfl;grind
variable {x:Nat→Rat} {t:Rat} {dist:Nat→Option Rat}
def afa(hx:Nn n x){d:Nat->Rat}(hd:Nn n d)(hD:∀i,i<n->H9 (g.e i) (g.k i) (x i) (dist i)){h:Rat}(hh:∀v∈kY n g dist x d,h<=v):Lin (xg hg) x d h:=λs h0 hs j hj=>
 akY hg hx hd h0 (JU hg hx hd hD h0 λv hv=>cF hs (hh v hv)) hj
def aaE(hx:Nn n x){d:Nat->Rat}(hd:Nn n d)(hD:∀i,i<n->H9 (g.e i) (g.k i) (x i) (dist i)){h:Rat}(hh:∀v∈kY n g dist x d,h<=v):Same (xg hg) x d h:=λs h0 hs j i hj hi=>
 aqg hg hx hd h0 (JU hg hx hd hD h0 λv hv=>by grind) (ahB hg hx hd hD h0 λv hv=>by grind) hi
def ahG{n:Nat}{g:GL}(hg:Ny n g){x:Nat->Rat}{dist:Nat->Option Rat}(hD:∀i,i<n->H9 (g.e i) (g.k i) (x i) (dist i)){l:List Nat}(hl:JW n (gM n g x) l){d:Nat->Rat}(hp:∀i∈l,0<d i):kY n g dist x d≠[]:=by
 intro he;have hi0:at0 l 0∈l:=jr hl.ne;have hin:=hl.lt _ hi0;have azL:=hl.col _ hi0;generalize at0 l 0=i at*;have hn:dist i=none:=by
  cases ho:dist i with
  |none=>rfl
  |some y=>
   have:y/d i∈kY n g dist x d:=bY.mpr (.inl ((yY n).mpr ⟨i,hin,hp i hi0,y,ho,rfl⟩))
   grind
 have hs:∀c,c<g.k i->yT (g.e i) (x i) c=0:=λc hc=>by have:=((hD i hin).no hn 0 aR c hc).2;grind
 have hgs:∀l:gJ,l∈g.fP->gs g x i l=0:=λl h=>by
  unfold gs;by_cases e:l.1=i
  .rw[ab e,e];have:=(hg.fP l h).2;grind
  grind
 have h0:∀j,gM n g x j i=0:=λj=>by
  unfold gM;rw[bK λc hc=>by grind[gs],jo λd' hd'=>?_]
  .grind
  .have hz:∀l∈d'.2,gs g x i l=0:=λl h=>hgs l (cC.mpr ⟨d',hd',h⟩);have e1:aK d'.2 (gs g x i)=0:=jo hz;have e2:jF d'.1 (gq g x) (gs g x i) 0 0 0 d'.2 j=0:=by
    have:∀(t:List gJ) (Q:Rat),(∀l∈t,gs g x i l=0)->jF d'.1 (gq g x) (gs g x i) Q 0 0 t j=0:=by
     intro t;induction t with
     |nil=>intro Q _;rfl
     |cons l t ih=>
      grind[pR,jF]
    grind
   grind[dM,pR]
 grind[bK]
def al8(hc:∀j,j<n->0<=c j){least:Bool}(hI:Fb hg c least x t)(hD:∀i,i<n->H9 (g.e i) (g.k i) (x i) (dist i)){l:List Nat}{d:Nat->Rat}(hp:∀i∈l,0<d i)(hz:∀i,i∉l->d i=0)(hdm:∀j,j<n->d j=mv n (gM n g x) d j)
  (hre:least=true->∀E:Nat->Prop,(∃i,i<n/\E i/\i∈l)->(∀j,j<n->E j->c j=0)->(∀j i,j<n->i<n->E j->gM n g x j i≠0->E i)->False) (ht:least=true->t<1)
  {h:Rat}(hm:h∈kY n g dist x d) (hh:∀v∈kY n g dist x d,h<=v):Fb hg c least (bF x d h) t/\mu n g (bF x d h)<mu n g x:=by
 have hd:Nn n d:=λi _=>by grind
 have h0:0<=h:=ec (F7 hD h hm)
 have hlin:=afa hg hI.nn hd hD hh
 have hsame:=aaE hg hI.nn hd hD hh
 refine⟨⟨hI.nn.step hd h0,hI.t0,hI.t1,ZT (xg hg) hI.fix hlin hdm h0 aR,λhl=>?_⟩,arZ hg hI.nn hd hD hh hm⟩
 refine acw (xg hg) hI.nn hd hc h0 hI.fix hlin hsame hdm (λE ⟨i,hi,hE,hdi⟩ h1 h2=>hre hl E ⟨i,hi,hE,br λhn=>?_⟩ h1 h2) (ht hl) (hI.least hl)
 grind
def al9(hc:∀j,j<n->0<=c j){least:Bool}(hI:Fb hg c least x t)(hD:∀i,i<n->H9 (g.e i) (g.k i) (x i) (dist i)){v:Nat->Rat}(hv:Nn n v)(hvm:∀j,j<n->v j=mv n (gM n g x) v j+c j)
  (hno:∀S:Nat->Prop,(∃i,i<n/\S i)->(∀i,i<n->S i->0<v i)->¬Shut n (gM n g x) S) (ht:t<1){h:Rat}(h0:0<=h) (h1:h<=1-t) (hh:∀v'∈kY n g dist x v,h<=v'):
  Fb hg c least (bF x v h) (t+h)/\mu n g (bF x v h)<=mu n g x/\(h∈kY n g dist x v->mu n g (bF x v h)<mu n g x):=by
 have hlin:=afa hg hI.nn hv hD hh
 have hsame:=aaE hg hI.nn hv hD hh
 have:=hI.t0
 refine⟨⟨hI.nn.step hv h0,by grind,by grind,ZR (xg hg) hI.fix hlin hvm h0 aR,λhl=>acv (xg hg) hI.nn hv hc h0 hI.fix hlin hsame hvm hno ht (hI.least hl)⟩,aqi hg hI.nn (le_step hv h0),λhm=>arZ hg hI.nn hv hD hh hm⟩
structure Sr(x:Nat->Rat):Prop where
 nn:Nn n x
 fix:∀j,j<n->x j=c j+gG n g x j
 grt:∀y,Nn n y->(∀j,j<n->y j<=c j+gG n g y j)->Le n y x
structure AQ(x:Nat->Rat):Prop where
 nn:Nn n x
 fix:∀j,j<n->x j=c j+gG n g x j
 lst:∀y,Nn n y->(∀j,j<n->c j+gG n g y j<=y j)->Le n x y
def avP{least:Bool}(hI:Fb hg c least x 1)(hno:∀S:Nat->Prop,(∃i,i<n/\S i)->¬Shut n (gM n g x) S):Sr (n:=n) (g:=g) c x:=
 ⟨hI.nn,λj hj=>by have:=hI.fix j hj;rw[il]at this;exact this,λy hy hp=>ZQ (xg hg) hI.nn hI.fix hno hy λj hj=>by rw[il];exact hp j hj⟩
def avQ(hI:Fb hg c true x 1):AQ (n:=n) (g:=g) c x:=
 ⟨hI.nn,λj hj=>by have:=hI.fix j hj;rw[il]at this;exact this,λy hy hp=>hI.least rfl 1 y hy (λj hj=>by rw[il];exact hp j hj) (.inr ⟨rfl,rfl⟩)⟩
theorem Sr.uniq{y:Nat->Rat}(h1:Sr (n:=n) (g:=g) c x)(h2:Sr (n:=n) (g:=g) c y):∀i,i<n->x i=y i:=λi hi=>by have a:=h1.grt y h2.nn (λj hj=>by rw[<-h2.fix j hj];simp) i hi;have b:=h2.grt x h1.nn (λj hj=>by rw[<-h1.fix j hj];simp) i hi;grind
end
end Go.Proofs.Ins
namespace Go.Proofs.Xe
open Go.RowKit Go.Proofs.Ins
def sz1:Sz (1:Rat):=⟨Nat.one_lt_pow jj jj,Nat.one_lt_pow jj jj⟩
def afb(a b:Rat):decide (mW a b<Int.ofNat 0)=decide (a<b):=by
 by_cases h:a<b
 .rw[aq h];exact aq (su.mpr h)
 .rw[af h];exact af λh2=>h (su.mp h2)
def aqo{J:St}(hW:WF J){p:Nat->Prop}{mv:B}{n:Nat}{M:Nat->Nat->Rat}(hM:dQ p J.h mv n (λ_=>n) M)(hn:n<=1000){i:Nat}(hi:i<n)(hz:∀k,k<=n->Sz (aB k λj=>M j i))(hz2:∀j,j<n->Sz (M j i)):
  aC EN 126 [.c mv,jN i] J λr J'=>r=.c (.bool (decide (aB n (λj=>M j i)<1)))/\Fr J J':=by
 refine aN (uY.o _ _) uY.h ?_
 unfold uY
 dsimp only
 have hlen:=hM.len
 have hFr:=Fr.refl hW
 have z1:=sz1
 simp(disch:=try exact jz)only[go_sem,hlen]
 refine aF (λx tm J'=>∃j,x=n-j/\j<=n/\r8 tm 1=jN i/\r8 tm 5=.c (.ptr J.aj 0)/\r8 tm 9=.c mv/\r8 tm 10=jN n/\r8 tm 11=jN j
  /\J'.h J.aj=some ⟨(rK (aB j λj=>M j i)),none⟩/\Fr J J'/\J.aj+1<=J'.aj) n ?_ ?_
 .refine⟨0,jb,jb,?_⟩
  refine WN ?_
  exact⟨rfl,fr,jb⟩
 .rintro x tm J' ⟨j,rfl,hj,t1,t5,t9,t10,t11,q5,hf,hnx⟩
  have hle:=hf.le
  have lT:=Fr.refl hf.wf
  have y1:=hz j hj
  refine W2 ?_
  refine aH (λhlt=>?_) (λhlt=>?_)
  .obtain⟨b6,o6,c6,T,rfl,-,bJ,hT⟩:=hM.at hlt
   obtain⟨b7,o7,c7,rfl,-,cZ⟩:=aZ.at3 hT hi
   have bJ:=hf.ld hW bJ
   have cZ:=hf.ld hW cZ
   have y2:=hz2 j hlt
   have e:(aB j λj=>M j i)+M j i=aB (j+1) λj=>M j i:=rfl
   simp(disch:=try exact jz)only[go_sem,W3,bJ,cZ,au q5,q5,aG q5,e]
   exact⟨n-(j+1),jb,j+1,rfl,jb,rfl,rfl,fr,jb⟩
  .have:j=n:=jb
   subst this
   simp(disch:=try exact jz)only[go_sem,t1,t5,au q5,afb]
   exact hf
def OE{J:St}(hW:WF J){p p':Nat->Prop}{xv dv:B}{n:Nat}{x d:Nat->Rat}(hx:kX p J.h xv n x)(hd:kX p' J.h dv n d)(hn:n<=1000){h:Rat}(z1:Sz h)(zx:∀i,i<n->Sz (x i))(zd:∀i,i<n->Sz (d i))(zm:∀i,i<n->Sz (h*d i))(zs:∀i,i<n->Sz (x i+h*d i)):
  aC EN 91 [.c xv,.c dv,.agg (rK h)] J λr J'=>aam J J' r n (bF x d h)/\Fr J J':=by
 refine aN (uX.o _ _) uX.h ?_
 unfold uX
 dsimp only
 have hlen:=aZ.len hx
 have hFr:=Fr.refl hW
 simp(disch:=try exact jz)only[go_sem,hlen]
 refine aF (λy tm J'=>∃j,y=n-j/\j<=n/\r8 tm 0=.c xv/\r8 tm 1=.c dv/\r8 tm 5=.c (.ptr J.aj 0)/\r8 tm 7=.c (.sl (J.aj+1) 0 n (.ex n))/\r8 tm 13=jN n/\r8 tm 14=jN j
  /\J'.h J.aj=some ⟨(rK h),none⟩/\J'.h (J.aj+1)=some ⟨cO n (λi=>if i<j then bF x d h i else 0),none⟩/\Fr J J'/\J.aj+1+1<=J'.aj) n ?_ ?_
 .refine⟨0,jb,jb,?_⟩
  refine WN ?_
  exact⟨by rw[yV],fr,jb⟩
 .rintro y tm J' ⟨j,rfl,hj,t0,t1,t5,t7,t13,t14,q5,q7,hf,hnx⟩
  have hle:=hf.le
  have lT:=Fr.refl hf.wf
  refine W2 ?_
  refine aH (λhlt=>?_) (λhlt=>?_)
  .obtain⟨b6,o6,c6,rfl,-,bJ⟩:=aZ.at3 hx hlt
   obtain⟨b7,o7,c7,rfl,-,cZ⟩:=aZ.at3 hd hlt
   have bJ:=hf.ld hW bJ
   have cZ:=hf.ld hW cZ
   have y1:=zx j hlt
   have y2:=zd j hlt
   have y3:=zm j hlt
   have y4:=zs j hlt
   have hst:=um n j (bF x d h)
   rw[show bF x d h j=x j+h*d j from rfl]at hst
   simp(disch:=try exact jz)only[go_sem,W3,bJ,cZ,au q5,q5,q7,aG q7,hst]
   exact⟨n-(j+1),jb,j+1,rfl,jb,rfl,rfl,fr,jb⟩
  .have:j=n:=jb
   subst this
   simp(disch:=try exact jz)only[go_sem,t7]
   exact⟨⟨_,rfl,by rw[q7,Aa],jb,jb⟩,hf⟩
abbrev aaF(h:Tr Bk)(v:B)(l:List Nat):Prop:=HL h 1 v l.length λa=>[.int .i64 (.ofNat (at0 l a))]
def SA(l:List Nat)(v:Nat->Rat):Nat->Nat->Rat
 |0,_=>0
 |k+1,i=>if i=at0 l k then v k else SA l v k i
theorem ahH{l:List Nat}(hn:l.Nodup)(v:Nat->Rat)(i:Nat):SA l v l.length i=rG l v i:=by
 have h1:∀k,k<=l.length->(∀a,a<k->at0 l a≠i)->SA l v k i=0:=by
  intro k;induction k with
  |zero=>intro _ _;rfl
  |succ k ih=>
   grind[SA]
 have h2:∀k a,k<=l.length->a<k->at0 l a=i->SA l v k i=v a:=by
  intro k;induction k with
  |zero=>omega
  |succ k ih=>
   grind[SA,at0,List.getElem_inj]
 grind[F9,Gf,vT]
def aaG{J:St}(hW:WF J){p:Nat->Prop}{iv vv:B}{n:Nat}{l:List Nat}{v:Nat->Rat}(hl:aaF J.h iv l)(hv:kX p J.h vv l.length v)(hn:n<=1000)(hl1:l.length<=1000)(hln:∀i∈l,i<n):
  aC EN 129 [jN n,.c iv,.c vv] J λr J'=>aam J J' r n (SA l v l.length)/\Fr J J':=by
 refine aN (tq.o _ _) tq.h ?_
 unfold tq
 dsimp only
 have hlen:=hl.len
 have hFr:=Fr.refl hW
 simp(disch:=try exact jz)only[go_sem,hlen]
 refine aF (λy tm J'=>∃j,y=l.length-j/\j<=l.length/\r8 tm 2=.c vv/\r8 tm 7=.c (.sl J.aj 0 n (.ex n))/\r8 tm 12=.c iv/\r8 tm 13=jN l.length/\r8 tm 14=jN j
  /\J'.h J.aj=some ⟨cO n (SA l v j),none⟩/\Fr J J'/\J.aj+1<=J'.aj) l.length ?_ ?_
 .refine⟨0,jb,jb,?_⟩
  refine WN ?_
  exact⟨rfl,fr,jb⟩
 .rintro y tm J' ⟨j,rfl,hj,t2,t7,t12,t13,t14,q7,hf,hnx⟩
  have hle:=hf.le
  have lT:=Fr.refl hf.wf
  refine W2 ?_
  refine aH (λhlt=>?_) (λhlt=>?_)
  .obtain⟨b6,o6,c6,rfl,bJ⟩:=hl.one jb
   obtain⟨b7,o7,c7,rfl,-,cZ⟩:=aZ.at3 hv hlt
   have bJ:=hf.ld hW (bJ j hlt)
   have cZ:=hf.ld hW cZ
   have hin:=hln _ (jr hlt)
   have hst:cO n (aJ (SA l v j) (at0 l j) (v j))=cO n (SA l v (j+1)):=dU λi _=>rfl
   simp(disch:=try exact jz)only[go_sem,W3,bJ,cZ,q7,aG q7,hst]
   exact⟨l.length-(j+1),jb,j+1,rfl,jb,rfl,rfl,fr,jb⟩
  .have:j=l.length:=jb
   subst this
   simp(disch:=try exact jz)only[go_sem,t7]
   exact⟨⟨_,rfl,q7,jb,jb⟩,hf⟩
def bls(n:Nat)(f:Nat->Bool):List B:=ones n λi=>.bool (f i)
def afc(n:Nat)(f:Nat->Bool)(i:Nat)(b:Bool):ones n (aJ (λi=>B.bool (f i)) i (.bool b))=bls n (aJ f i b):=dF λk _=>by grind[aJ]
def ama{J:St}(hW:WF J){n b:Nat}{c:Cap}{f:Nat->Bool}(hb:J.h b=some ⟨bls n f,none⟩)(hn:n<=1000000):
  aC EN 123 [.c (.sl b 0 n c)] J λr J'=>(∃b' c' o',r=.c (.sl b' 0 n c')/\J'.h b'=some ⟨bls n f,o'⟩/\plo o'=true/\X7 o'=true/\J.aj<=b'/\b'<J'.aj)/\Fr J J':=by
 refine aN (kH.o _ _) kH.h ?_
 unfold kH
 dsimp only
 have hbl:=hW.lt hb
 unfold bls at*
 by_cases h0:n=0
 .subst h0
  simp(disch:=try exact jz)only[go_sem,hb]
  refine⟨⟨J.aj,_,none,rfl,ay _ _ _,rfl,rfl,jp,bB _⟩,?_⟩
  exact fr
 .simp(disch:=try exact jz)only[go_sem,hb]
  refine⟨⟨J.aj+1,_,_,rfl,ay _ _ _,rfl,rfl,jb,bB _⟩,?_⟩
  exact fr
def ahI(n:Nat)(o:Nat->Bool):Nat:=AB n λi=>if o i=true then 0 else 1
def amb{n:Nat}{o:Nat->Bool}{j:Nat}(hj:j<n)(h:o j=false):ahI n (aJ o j true)<ahI n o:=by
 refine XE (k:=j) n (λi _=>?_) hj ?_
 .grind[aJ]
 grind[aJ]
structure aaH(n:Nat)(M:Nat->Nat->Rat)(fr:Nat->Prop)(o0 o:Nat->Bool)(ch:Bool):Prop where
 up:∀i,o0 i=true->o i=true
 rch:∀i,i<n->o i=true->XI n M fr i
 cnt:ahI n o+(if ch=true then 1 else 0)<=ahI n o0
 eq:ch=false->o=o0
def aaH.set{n:Nat}{M:Nat->Nat->Rat}{fr:Nat->Prop}{o0 o:Nat->Bool}{ch:Bool}(h:aaH n M fr o0 o ch){i j:Nat}(hi:i<n)(hj:j<n)(h1:o i=true)(h2:o j=false)(h3:0<M j i):aaH n M fr o0 (aJ o j true) true:=by
 refine⟨λk hk=>?_,λk hk ho=>?_,?_,λe=>by cases e⟩
 .unfold aJ;split
  .rfl
  .exact h.up k hk
 .unfold aJ at ho;by_cases e:k=j
  .subst e;exact .step (h.rch i hi h1) hj kd
  .rw[ae e]at ho;exact h.rch k hk ho
 .have a:=amb hj h2;have b:=h.cnt;grind
set_option maxRecDepth 10000 in
def afd{J:St}(hW:WF J){p:Nat->Prop}{mv:B}{n:Nat}{M:Nat->Nat->Rat}(hM:dQ p J.h mv n (λ_=>n) M)(hn:n<=1000)(hz:∀j i,j<n->i<n->Sz (M j i))(h0:∀j i,j<n->i<n->0<=M j i)
  {b:Nat}{c:Cap}{f:Nat->Bool}(hb:J.h b=some ⟨bls n f,none⟩):
  aC EN 84 [.c mv,.c (.sl b 0 n c)] J λr J'=>(∃b' c' o' g,r=.c (.sl b' 0 n c')/\J'.h b'=some ⟨bls n g,o'⟩/\X7 o'=true/\b'<J'.aj/\∀i,i<n->(g i=true↔XI n M (λi=>f i=true) i))/\Fr J J':=by
 refine aN (uV.o _ _) uV.h ?_
 unfold uV
 dsimp only
 have hlen:=hM.len
 refine WX ?_
 refine(ama hW hb jb).mono ?_
 rintro _ σ1 ⟨⟨b1,c1,o1,rfl,hb1,hpl,hrd,hl1,hl2⟩,hf1⟩
 have hnx1:=hf1.le
 refine WX ?_
 refine aF (λq tm J'=>∃o ch,q=ahI n o+(if ch=true then 1 else 0)/\r8 tm 0=.c mv/\r8 tm 5=.c (.sl b1 0 n c1)/\r8 tm 6=.c (.bool ch)/\J'.h b1=some ⟨bls n o,o1⟩/\Fr J J'
  /\(∀i,f i=true->o i=true)/\(∀i,i<n->o i=true->XI n M (λi=>f i=true) i)/\(ch=false->∀i j,i<n->j<n->o i=true->0<M j i->o j=true)) (ahI n f+1) ?_ ?_
 .refine⟨f,true,rfl,?_⟩
  refine WN ?_
  exact⟨hb1,hf1,λ_ h=>h,λi hi h=>.base h hi,λe=>by cases e⟩
 .rintro q tm J' ⟨o,ch,rfl,t0,t5,t6,q1,hf,hup,hrc,hcl⟩
  cases ch with
  |false=>
   refine WP ?_
   refine⟨⟨b1,c1,o1,o,rfl,q1,hrd,hf.wf.lt q1,λi hi=>⟨hrc i hi,λh=>?_⟩⟩,hf⟩
   exact h.sub (S:=λi=>o i=true) (λi _ h=>hup i h) λi j hi hj h1 h2=>hcl rfl i j hi hj h1 kd
  |true=>
   simp(disch:=try exact jz)only[go_sem,W3,hlen]
   refine aF (λq tm σ2=>∃j o' ch,q=n-j/\j<=n/\r8 tm 0=.c mv/\r8 tm 5=.c (.sl b1 0 n c1)/\r8 tm 6=.c (.bool ch)/\r8 tm 14=.c mv/\r8 tm 15=jN n/\r8 tm 16=jN j/\σ2.h b1=some ⟨bls n o',o1⟩/\Fr J σ2
    /\aaH n M (λi=>f i=true) o o' ch/\(ch=false->∀i j',i<n->j'<j->o i=true->0<M j' i->o j'=true)) n ?_ ?_
   .refine⟨0,o,false,jb,jb,?_⟩
    simp(disch:=try exact jz)only[go_sem,t0,t5,am]
    exact⟨q1,hf,⟨λ_ h=>h,hrc,by simp,λ_=>rfl⟩,λ_ i j' _ h=>absurd h jb⟩
   .rintro q YG σ2 ⟨j,o',ch,rfl,hj,t0,t5,t6,t14,t15,t16,q2,hf2,hP,hc2⟩
    refine W2 ?_
    refine aH (λhlt=>?_) (λhlt=>?_)
    .obtain⟨b6,o6,c6,T,rfl,-,bJ,hT⟩:=hM.at hlt
     have bJ:=hf2.ld hW bJ
     have hTl:=aZ.len hT
     simp(disch:=try exact jz)only[go_sem,W3,bJ,hTl]
     refine aF (λq tm σ3=>∃i o' ch,q=n-i/\i<=n/\r8 tm 0=.c (.sl b6 o6 n c6)/\r8 tm 5=.c (.sl b1 0 n c1)/\r8 tm 6=.c (.bool ch)/\r8 tm 7=jN j/\r8 tm 14=.c (.sl b6 o6 n c6)/\r8 tm 15=jN n/\r8 tm 16=jN j
      /\r8 tm 21=.c T/\r8 tm 22=jN n/\r8 tm 23=jN i/\σ3.h b1=some ⟨bls n o',o1⟩/\Fr J σ3
      /\aaH n M (λi=>f i=true) o o' ch/\(ch=false->(∀i j',i<n->j'<j->o i=true->0<M j' i->o j'=true)/\∀i',i'<i->o i'=true->0<M j i'->o j=true)) n ?_ ?_
     .refine⟨0,o',ch,jb,jb,?_⟩
      refine W0 ?_
      exact⟨q2,hf2,hP,λe=>⟨hc2 e,λi' h=>absurd h jb⟩⟩
     .rintro q tm3 σ3 ⟨i,o',ch,rfl,hi,t0,t5,t6,t7,t14,t15,t16,t21,t22,t23,q3,hf3,hP,hc3⟩
      refine W2 ?_
      refine aH (λhli=>?_) (λhli=>?_)
      .obtain⟨b7,o7,c7,rfl,-,cZ⟩:=aZ.at3 hT hli
       have cZ:=hf3.ld hW cZ
       have hb7:=hf3.wf.dh cZ
       have aDx:=hf3.wf.lt q3
       have hle3:=hf3.le
       have z2:=hz j i hlt hli
       have hFr:=Fr.refl hf3.wf
       have hkeep:(ch=false->¬(o' i=true/\o' j=false/\0<M j i))->ch=false->(∀i j',i<n->j'<j->o i=true->0<M j' i->o j'=true)/\∀i',i'<i+1->o i'=true->0<M j i'->o j=true:=λhno e=>by
        refine⟨(hc3 e).1,λi' h1 h2 h3=>?_⟩;rcases cM.mp h1 with h|rfl
        .exact(hc3 e).2 i' h h2 h3
        .have:=hno e;rw[hP.eq e]at this;cases hoj:o j with
         |true=>rfl
         |false=>exact absurd ⟨h2,hoj,h3⟩ this
       unfold bls at q3
       cases hoi:o' i with
       |false=>
        simp(disch:=try exact jz)only[go_sem,W3,cZ,au q3,hrd,hoi]
        exact⟨n-(i+1),jb,i+1,o',ch,rfl,jb,rfl,rfl,q3,fr,hP,hkeep λ_ h=>by rw[hoi]at h;cases h.1⟩
       |true=>
        cases hoj:o' j with
        |true=>
         simp(disch:=try exact jz)only[go_sem,W3,cZ,au q3,hrd,hoi,hoj]
         exact⟨n-(i+1),jb,i+1,o',ch,rfl,jb,rfl,rfl,q3,fr,hP,hkeep λ_ h=>by rw[hoj]at h;cases h.2.1⟩
        |false=>
         by_cases hm:0<M j i
         .have hst:=afc n o' j true
          simp(disch:=try exact jz)only[go_sem,W3,cZ,au q3,hrd,hoi,hoj,hm,aG q3,q3,hpl,hst]
          exact⟨n-(i+1),jb,i+1,aJ o' j true,true,rfl,jb,rfl,rfl,rfl,fr,hP.set hli hlt hoi hoj hm,λe=>by cases e⟩
         .simp(disch:=try exact jz)only[go_sem,W3,cZ,au q3,hrd,hoi,hoj,hm]
          exact⟨n-(i+1),jb,i+1,o',ch,rfl,jb,rfl,rfl,q3,fr,hP,hkeep λ_ h=>hm h.2.2⟩
      .have:i=n:=jb
       subst this
       simp(disch:=try exact jz)only[go_sem,t0,t5,t6,t7,t14,t15,t16]
       refine⟨i-(j+1),jb,j+1,o',ch,rfl,jb,rfl,rfl,q3,hf3,hP,λe k j' hk hj' h1 h2=>?_⟩
       rcases cM.mp hj' with h|rfl
       .exact(hc3 e).1 k j' hk h h1 h2
       .exact(hc3 e).2 k hk h1 h2
    .have:j=n:=jb
     subst this
     simp(disch:=try exact jz)only[go_sem,t0,t5,t6]
     have hcnt:=hP.cnt
     refine⟨_,?_,o',ch,rfl,rfl,q2,hf2,λi h=>hP.up i (hup i h),hP.rch,λe i j hi hj h1 h2=>?_⟩
     .rw[ab trivial];omega
     .have he:=hP.eq e
      rw[he]at h1⊢
      exact hc2 e i j hi hj h1 h2
end Go.Proofs.Xe
