import Derived.Test.YtodnohicahohdaaGreatDoorYh25
set_option linter.all false
namespace Go.Proofs.Xe
open Go.RowKit Go.Proofs.Ins
def qY(M:Nat->Nat)(n:Nat)(j:Nat):Rat:=if j<n/\M j%3≠0 then amt (M j/3)else 0
set_option maxRecDepth 10000 in
theorem aqw {J:St} (hW:WF J) {p:Nat→Prop} {ev dv:B} (g:dV) (hg:jY p J.h ev dv g) (hn:g.e.length≤1000) {n:Nat} {v:B} (M:Nat→Nat) (hv:HL J.h 1 v n fun i=>[.int .u16 (.ofNat (M i))]) (hM : ∀ i,i<n→M i≤65535) :
  aB EN 18 [.agg [ev,dv],.c v] J fun r J'=>∃ rv,r = .c rv∧fJ J'.h rv g.e.length (fun k=>bY (qY M n k)) 3 69 J.aj J'.aj∧Fr J J':=by
 refine aI (Io.o _ _) Io.h ?_
 unfold Io
 dsimp only
 have hek:=hg.e.kn
 have hdk:=hg.d.kn
 have hlenE:=hg.e.len
 have hlen:=hv.len
 generalize g.e.length=m at *
 simp (disch:=try exact jz) only [go_sem,z3,hek,hlenE]
 refine aG (fun q tm J'=>∃ i rv,q=m - i∧i≤m∧r8 tm 1 = .c v∧r8 tm 5 = .c rv∧r8 tm 10 = .c (.int .i64 (.ofNat m))∧r8 tm 11 = .c (.int .i64 (.ofNat i))∧fJ J'.h rv i (fun k=>bY (qY M n k)) 3 69 J.aj J'.aj∧Fr J J') m ?_ ?_
 ·refine ⟨0,.aQ,jb,jb,?_⟩
  simp (disch:=try exact jz) only [go_sem,z3,true_and]
  exact ⟨.nil,fr⟩
 ·rintro q tm J' ⟨i,rv,rfl,hi,t1,t5,t10,t11,hO,hf⟩
  have hle:=hf.le
  simp (disch:=try exact jz) only [go_sem,z3,t10,t11,aC]
  refine aH (fun hlt=>?_) (fun hlt=>?_)
  ·simp (disch:=try exact jz) only [go_sem,z3,t1,t11,hlen,aC]
   refine Af (fun h1=>?_) (fun h1=>?_)
   ·obtain ⟨b,o,c,rfl,hld⟩:=hv.one jb
    have hld:=hf.ld hW (hld i h1)
    have hb:=hf.wf.cZ hld
    have hMi:=hM i h1
    simp (disch:=try exact jz) only [go_sem,z3,t1,h1,hld]
    refine aH (fun hm=>?_) (fun hm=>?_)
    ·have hq:qY M n i=0:=if_neg fun h=>h.2 (by simpa using hm)
     rcases hO.cases with ⟨rfl,rfl⟩|⟨h0,bo,rfl,k1,k2,k3⟩
     ·simp (disch:=try exact jz) only [go_sem,z3,t1,t5,t10,t11]
      refine ⟨m - 1,jb,1,_,rfl,jb,rfl,rfl,fJ.of (n:=0) (by rw [aA];show _=some (Bk.mk (bf 0 _ ++ bY (qY M n 0)) _);rw [hq];rfl) jb jb,fr⟩
     ·have hrl:=uy (n:=i) (G:=fun k=>bY (qY M n k)) (e:=3) fun _=>rfl
      have hrt:=jC (n:=i) (G:=fun k=>bY (qY M n k)) (e:=3) fun _=>rfl
      simp (disch:=try exact jz) only [go_sem,z3,t1,t5,t10,t11,k1]
      refine ⟨m - (i+1),jb,i+1,_,rfl,jb,rfl,rfl,fJ.of (by rw [aA,hrt];show _=some (Bk.mk (bf i _ ++ bY (qY M n i)) _);rw [hq];rfl) jb jb,fr⟩
    ·have hq:qY M n i=amt (M i/3):=if_pos ⟨h1,by simpa using hm⟩
     have h3:M i/3≤65535:=jb
     rcases hO.cases with ⟨rfl,rfl⟩|⟨h0,bo,rfl,k1,k2,k3⟩
     ·simp (disch:=try exact jz) only [go_sem,z3,t1,t5,t10,t11,hld]
      refine ⟨m - 1,jb,1,_,rfl,jb,rfl,rfl,fJ.of (n:=0) (by rw [aA];show _=some (Bk.mk (bf 0 _ ++ bY (qY M n 0)) _);rw [hq];rfl) jb jb,fr⟩
     ·have hrl:=uy (n:=i) (G:=fun k=>bY (qY M n k)) (e:=3) fun _=>rfl
      have hrt:=jC (n:=i) (G:=fun k=>bY (qY M n k)) (e:=3) fun _=>rfl
      simp (disch:=try exact jz) only [go_sem,z3,t1,t5,t10,t11,hld,k1]
      refine ⟨m - (i+1),jb,i+1,_,rfl,jb,rfl,rfl,fJ.of (by rw [aA,hrt];show _=some (Bk.mk (bf i _ ++ bY (qY M n i)) _);rw [hq];rfl) jb jb,fr⟩
   ·have hq:qY M n i=0:=if_neg fun h=>h1 h.1
    rcases hO.cases with ⟨rfl,rfl⟩|⟨h0,bo,rfl,k1,k2,k3⟩
    ·simp (disch:=try exact jz) only [go_sem,z3,t1,t5,t10,t11,h1]
     refine ⟨m - 1,jb,1,_,rfl,jb,rfl,rfl,fJ.of (n:=0) (by rw [aA];show _=some (Bk.mk (bf 0 _ ++ bY (qY M n 0)) _);rw [hq];rfl) jb jb,fr⟩
    ·have hrl:=uy (n:=i) (G:=fun k=>bY (qY M n k)) (e:=3) fun _=>rfl
     have hrt:=jC (n:=i) (G:=fun k=>bY (qY M n k)) (e:=3) fun _=>rfl
     simp (disch:=try exact jz) only [go_sem,z3,t1,t5,t10,t11,h1,k1]
     refine ⟨m - (i+1),jb,i+1,_,rfl,jb,rfl,rfl,fJ.of (by rw [aA,hrt];show _=some (Bk.mk (bf i _ ++ bY (qY M n i)) _);rw [hq];rfl) jb jb,fr⟩
  ·have:i=m:=jb
   subst this
   simp (disch:=try exact jz) only [go_sem,z3,t5]
   exact ⟨rv,rfl,hO,hf⟩
def cpG(g:dV)(m:Nat->Rat):dV:=⟨(List.range g.e.length).map λi=>⟨sO (m i),(ix g.e i).c.map Qy,(ix g.e i).a.map JH⟩,g.d.map acN⟩
def CpG.grp{g:dV}{m:Nat->Rat}{lo hi:Nat}{h:Tr Bk}{ov dv:B}(hc:CpG g m lo h hi ov dv):jY (λ_=>True) h ov dv (cpG g m):=by
 obtain⟨C,A,mid,h1,h2,-⟩:=hc;have hl:(cpG g m).e.length=g.e.length:=by unfold cpG;simp
 have hix:∀i,i<g.e.length->ix (cpG g m).e i=⟨sO (m i),(ix g.e i).c.map Qy,(ix g.e i).a.map JH⟩:=λi hi=>pY _ hi;refine⟨⟨C,A,?_,λi hi=>?_⟩,h2.keep (λ_ _=>rfl) λ_ _=>trivial⟩
 .rw[hl];refine(fJ.hlp (p:=λ_=>True) h1.own (λ_=>rfl) jj (λj hj=>h1.ekn j hj) λ_ _ _=>trivial).congr λj hj=>?_;rw[hix j hj];rfl
 .rw[hl]at hi;rw[hix i hi];have:=h1.el (λj _=>Lr g.e C A j) hi;exact⟨aZ.keep this.1 (λ_ _=>rfl) λ_ _=>trivial,this.2.keep (λ_ _=>rfl) λ_ _=>trivial⟩
end Go.Proofs.Xe
namespace Go.Proofs.Ins
def aF:Nat->(Nat->Rat)->Rat
 |0,_=>0
 |n+1,f=>aF n f+f n
theorem aP{n:Nat}{f g:Nat->Rat}(h:∀i,i<n->f i=g i):aF n f=aF n g:=by
 induction n with
 |zero=>rfl
 |succ n ih=>grind[aF]
theorem bP{n:Nat}{f:Nat->Rat}(h:∀i,i<n->f i=0):aF n f=0:=by
 induction n with
 |zero=>rfl
 |succ n ih=>grind[aF]
theorem dH(n:Nat)(f g:Nat->Rat):aF n (λi=>f i+g i)=aF n f+aF n g:=by
 induction n with
 |zero=>grind[aF]
 |succ n ih=>grind[aF]
theorem iR(n:Nat)(f g:Nat->Rat):aF n (λi=>f i-g i)=aF n f-aF n g:=by
 induction n with
 |zero=>grind[aF]
 |succ n ih=>grind[aF]
theorem iq(n:Nat)(c:Rat)(f:Nat->Rat):aF n (λi=>c*f i)=c*aF n f:=by
 induction n with
 |zero=>grind[aF]
 |succ n ih=>grind[aF]
theorem sF(n:Nat)(c:Rat)(f:Nat->Rat):aF n (λi=>f i*c)=aF n f*c:=by grind[Rat.mul_comm,iq]
def qc{n:Nat}{f g:Nat->Rat}(h:∀i,i<n->f i<=g i):aF n f<=aF n g:=by
 induction n with
 |zero=>rfl
 |succ n ih=>
  grind[aF]
theorem CY{n:Nat}{f:Nat->Rat}(h:∀i,i<n->0<=f i):0<=aF n f:=by have:=qc (n:=n) (f:=λ_=>0) (g:=f) h;simp_all[bP]
def Ou{n:Nat}{f g:Nat->Rat}(h:∀i,i<n->f i<=g i)(e:aF n g<=aF n f):∀i,i<n->f i=g i:=by
 induction n with
 |zero=>omega
 |succ n ih=>
  rw[aF,aF]at e
  have h1:=qc (n:=n) (f:=f) (g:=g) λi hi=>h i jb
  grind
theorem ZX{n:Nat}{f:Nat->Rat}(h:∀i,i<n->0<=f i)(e:aF n f<=0):∀i,i<n->f i=0:=by intro i hi;exact(Ou (f:=λ_=>0) h (by simp_all[bP]) i hi).symm
def BK(n m:Nat)(f:Nat->Nat->Rat):aF n (λi=>aF m λj=>f i j)=aF m λj=>aF n λi=>f i j:=by
 induction n with
 |zero=>grind[bP]
 |succ n ih=>
  simp_all[aF,dH]
theorem jP{n:Nat}{f:Nat->Rat}{k:Nat}(hk:k<n)(h:∀i,i<n->i≠k->f i=0):aF n f=f k:=by
 induction n with
 |zero=>omega
 |succ n ih=>
  grind[aF,bP]
def Fj{n:Nat}{f:Nat->Rat}{k:Nat}(hk:k<n)(h:∀i,i<n->0<=f i):f k<=aF n f:=by
 induction n with
 |zero=>omega
 |succ n ih=>
  grind[aF,CY]
def mv(n:Nat)(M:Nat->Nat->Rat)(v:Nat->Rat)(j:Nat):Rat:=aF n λi=>M j i*v i
structure NI(n:Nat)(M:Nat->Nat->Rat):Prop where
 nn:∀j i,j<n->i<n->0<=M j i
 le:∀i,i<n->aF n (λj=>M j i)<=1
def Shut(n:Nat)(M:Nat->Nat->Rat)(S:Nat->Prop):Prop:=∀i,i<n->S i->aF n (λj=>M j i)=1/\∀j,j<n->¬S j->M j i=0
def ZY{n:Nat}(M:Nat->Nat->Rat)(S:Nat->Prop)[DecidablePred S](i:Nat):aF n (λj=>M j i)=aF n (λj=>if S j then M j i else 0)+aF n (λj=>if S j then 0 else M j i):=by rw[<-dH];grind
def aqx{n:Nat}{M:Nat->Nat->Rat}(hM:NI n M)(S:Nat->Prop)[DecidablePred S]{i:Nat}(hi:i<n):aF n (λj=>if S j then M j i else 0)<=1:=by
 have h1:=hM.le i hi;rw[ZY M S i]at h1;have h2:0<=aF n (λj=>if S j then 0 else M j i):=CY λj hj=>by
  split
  .rfl
  .exact hM.nn j i hj hi
 grind
def aqy{n:Nat}{M:Nat->Nat->Rat}(hM:NI n M)(S:Nat->Prop)[DecidablePred S]{i:Nat}(hi:i<n)(h:1<=aF n (λj=>if S j then M j i else 0)):aF n (λj=>M j i)=1/\∀j,j<n->¬S j->M j i=0:=by
 have h1:=hM.le i hi;have h0:=ZY (n:=n) M S i;have h2:∀j,j<n->0<=(if S j then 0 else M j i):=λj hj=>by
  split
  .rfl
  .exact hM.nn j i hj hi
 grind[Go.Proofs.Ins.CY,Go.Proofs.Ins.ZX]
def QB{n:Nat}{M:Nat->Nat->Rat}(hM:NI n M){w:Nat->Rat}(h:∀j,j<n->0<w j->w j<=mv n M w j):Shut n M λi=>0<w i:=by
 have h1:aF n (λj=>if 0<w j then w j else 0)<=aF n λj=>if 0<w j then mv n M w j else 0:=qc λj hj=>by grind
 have h2:(aF n λj=>if 0<w j then mv n M w j else 0)<=aF n λj=>aF n λi=>(if 0<w j then M j i else 0)*(if 0<w i then w i else 0):=qc λj hj=>by
  by_cases hp:0<w j
  .simp only[ab hp];refine qc λi hi=>?_;by_cases hq:0<w i
   .simp_all
   .simp only[ae hq];have a:=hM.nn j i hj hi;have b:w i<=0:=by grind
    have:=cM b a;grind
  simp_all[Go.Proofs.Ins.CY]
 rw[BK]at h2;have h3:∀i,i<n->aF n (λj=>(if 0<w j then M j i else 0)*(if 0<w i then w i else 0))<=(if 0<w i then w i else 0):=λi hi=>by
  rw[sF n (if 0<w i then w i else 0) λj=>if 0<w j then M j i else 0];have a:=aqx hM (λi=>0<w i) hi;have b:0<=(if 0<w i then w i else 0):=by grind
  have:=be a b;grind
 have h4:=Ou h3 (cF h1 h2);intro i hi hp;have h5:=h4 i hi;rw[sF n (if 0<w i then w i else 0) λj=>if 0<w j then M j i else 0,ab hp]at h5;refine aqy hM (λi=>0<w i) hi ?_;generalize aF n (λj=>if 0<w j then M j i else 0)=z at h5⊢;have:(z-1)*w i=0:=by grind
 rcases gC.mp this with e|e<;>grind
structure Flow(n:Nat) where
 G:(Nat->Rat)->Nat->Rat
 M:(Nat->Rat)->Nat->Nat->Rat
 mono:∀x y,(∀i,i<n->0<=x i)->(∀i,i<n->x i<=y i)->∀j,j<n->G x j<=G y j
 leak:∀x y,(∀i,i<n->0<=x i)->(∀i,i<n->x i<=y i)->aF n (λi=>x i-G x i)<=aF n (λi=>y i-G y i)
 nn:∀x,(∀i,i<n->0<=x i)->∀j i,j<n->i<n->0<=M x j i
 loc:∀x d,(∀i,i<n->0<=x i)->(∀i,i<n->0<=d i)->∃ε,0<ε/\∀s,0<=s->s<=ε->∀j,j<n->G (λi=>x i+s*d i) j=G x j+s*mv n (M x) d j
def Nn(n:Nat)(x:Nat->Rat):Prop:=∀i,i<n->0<=x i
def Le(n:Nat)(x y:Nat->Rat):Prop:=∀i,i<n->x i<=y i
def bF(x d:Nat->Rat)(s:Rat)(i:Nat):Rat:=x i+s*d i
def Nn.step{n:Nat}{x d:Nat->Rat}{s:Rat}(hx:Nn n x)(hd:Nn n d)(hs:0<=s):Nn n (bF x d s):=λi hi=>by have:=hx i hi;have:=ce hs (hd i hi);unfold Ins.bF;grind
def le_step{n:Nat}{x d:Nat->Rat}{s:Rat}(hd:Nn n d)(hs:0<=s):Le n x (bF x d s):=λi hi=>by have:=ce hs (hd i hi);unfold bF;grind
def Nn.le{n:Nat}{x y:Nat->Rat}(h:Nn n x)(hl:Le n x y):Nn n y:=λi hi=>cF (h i hi) (hl i hi)
section
variable {n:Nat} (F:Flow n)
def Lin(x d:Nat->Rat)(h:Rat):Prop:=∀s,0<=s->s<=h->∀j,j<n->F.G (bF x d s) j=F.G x j+s*mv n (F.M x) d j
def Same(x d:Nat->Rat)(h:Rat):Prop:=∀s,0<=s->s<h->∀j i,j<n->i<n->F.M (bF x d s) j i=F.M x j i
theorem cancel{s a b:Rat}(hs:0<s)(h:s*a<=s*b):a<=b:=by refine fw.mp λhlt=>?_;have:=Rat.mul_lt_mul_of_pos_left hlt hs;grind
def aqz{M:Nat->Nat->Rat}{k:Nat}(hk:k<n)(j:Nat):mv n M (λi=>if i=k then 1 else 0) j=M j k:=by grind[mv,jP]
def Flow.sub{x:Nat->Rat}(hx:Nn n x):NI n (F.M x):=by
 refine⟨F.nn x hx,λk hk=>?_⟩;have hd:Nn n (λi=>if i=k then 1 else 0):=λi _=>by grind
 obtain⟨ε,he,hl⟩:=F.loc x _ hx hd;have h1:=F.leak x (bF x _ ε) hx (le_step hd kd);have h2:aF n (λi=>bF x (λi=>if i=k then 1 else 0) ε i-F.G (bF x (λi=>if i=k then 1 else 0) ε) i)=aF n (λi=>x i-F.G x i)+(ε*1-ε*aF n (λj=>F.M x j k)):=by
  have e1:(1:Rat)=aF n (λi=>if i=k then 1 else 0):=by grind[jP]
  have e2:ε*1-ε*aF n (λj=>F.M x j k)=aF n λj=>ε*(if j=k then 1 else 0)-ε*F.M x j k:=by rw[iR,iq,iq,<-e1]
  rw[e2,<-dH];refine aP λj hj=>?_;have:=hl ε kd aM j hj;rw[aqz hk]at this;unfold bF;grind
 grind[cancel]
def aeR{ε:Rat}(h:0<ε):∃s,0<s/\s<=ε/\s<=1:=by
 by_cases h1:ε<=1
 .grind
 .exact⟨1,jj,by grind,aM⟩
theorem UW{x z:Nat->Rat}(hx:Nn n x)(hz:Le n x z){j:Nat}(hj:j<n)(h:F.G z j<=F.G x j):∀i,i<n->x i<z i->F.M x j i=0:=by
 have hd:Nn n (λi=>z i-x i):=λi hi=>by have:=hz i hi;grind
 obtain⟨ε,he,hl⟩:=F.loc x _ hx hd;obtain⟨s,h1,h2,h3⟩:=aeR he;have h4:=hl s kd h2 j hj;have h5:Le n (bF x (λi=>z i-x i) s) z:=λi hi=>by have:=be h3 (hd i hi);unfold bF;grind
 have h6:=F.mono _ _ (hx.step hd kd) h5 j hj;unfold bF at h6;rw[h4]at h6;have h7:s*mv n (F.M x) (λi=>z i-x i) j<=s*0:=by grind
 have h8:=cancel (a:=mv n (F.M x) (λi=>z i-x i) j) (b:=0) h1 h7;intro i hi hlt;have h9:=ZX (λi hi=>ce (F.nn x hx j i hj hi) (hd i hi)) h8 i hi;grind
def ahx{x z:Nat->Rat}(hx:Nn n x)(hz:Le n x z)(hl:aF n (λi=>z i-F.G z i)<=aF n (λi=>x i-F.G x i))(h:∀j,j<n->z j<=x j->F.G z j<=F.G x j):Shut n (F.M x) λi=>x i<z i:=by
 have hd:Nn n (λi=>z i-x i):=λi hi=>by have:=hz i hi;grind
 obtain⟨ε,he,hlin⟩:=F.loc x _ hx hd;obtain⟨s,h1,h2,h3⟩:=aeR he;have h5:Le n (bF x (λi=>z i-x i) s) z:=λi hi=>by have:=be h3 (hd i hi);unfold bF;grind
 have h6:=F.leak _ _ (hx.step hd kd) h5;have h7:aF n (λi=>bF x (λi=>z i-x i) s i-F.G (bF x (λi=>z i-x i) s) i)=aF n (λi=>x i-F.G x i)+s*(aF n (λi=>z i-x i)-aF n (mv n (F.M x) λi=>z i-x i)):=by rw[<-iR,<-iq,<-dH];refine aP λj hj=>?_;have:=hlin s kd h2 j hj;unfold bF;grind
 rw[h7]at h6;have h8:s*(aF n (λi=>z i-x i)-aF n (mv n (F.M x) λi=>z i-x i))<=s*0:=by grind
 have h9:=cancel (b:=0) h1 h8;have hM:=F.sub hx;have h10:aF n (mv n (F.M x) λi=>z i-x i)=aF n λi=>aF n (λj=>F.M x j i)*(z i-x i):=by unfold mv;rw[BK];exact aP λi _=>sF n _ _
 rw[h10]at h9;have h11:=Ou (f:=λi=>aF n (λj=>F.M x j i)*(z i-x i)) (g:=λi=>z i-x i) (λi hi=>by have:=be (hM.le i hi) (hd i hi);dsimp only at this;grind) kd
 intro i hi hlt;grind[Go.Proofs.Ins.UW]
def Fix(c:Nat->Rat)(t:Rat)(x:Nat->Rat):Prop:=∀j,j<n->x j=t*c j+F.G x j
def Pre(c:Nat->Rat)(t:Rat)(y:Nat->Rat):Prop:=∀j,j<n->t*c j+F.G y j<=y j
def Post(c:Nat->Rat)(t:Rat)(y:Nat->Rat):Prop:=∀j,j<n->y j<=t*c j+F.G y j
def Fix.leak{c:Nat->Rat}{t:Rat}{x:Nat->Rat}(h:Fix F c t x):aF n (λi=>x i-F.G x i)=aF n λi=>t*c i:=aP λi hi=>by have:=h i hi;grind
def Z4{c:Nat->Rat}{t:Rat}{x y:Nat->Rat}(hx:Nn n x)(hf:Fix F c t x)(hno:∀S:Nat->Prop,(∃i,i<n/\S i)->¬Shut n (F.M x) S)(hy:Nn n y)(hp:Post F c t y):Le n y x:=by
 obtain⟨z,ez⟩:∃z:Nat->Rat,z=λi=>if x i<y i then y i else x i:=⟨_,rfl⟩
 have hxz:Le n x z:=λi _=>by grind
 have hyz:Le n y z:=λi _=>by grind
 have hz:Post F c t z:=λj hj=>by have h1:=F.mono _ _ hx hxz j hj;have h2:=F.mono _ _ hy hyz j hj;have h3:=hf j hj;have h4:=hp j hj;grind
 have h1:=F.leak _ _ hx hxz;have h2:=hf.leak;have h3:=qc hz;rw[dH]at h3;have h4:aF n (λi=>z i-F.G z i)=aF n z-aF n (F.G z):=iR n _ _;have hl:aF n (λi=>z i-F.G z i)<=aF n (λi=>x i-F.G x i):=by grind
 have h5:=Ou hz (by grind[dH])
 have h6:=ahx F hx hxz hl λj hj hle=>by have:=h5 j hj;have:=hf j hj;grind
 intro i hi;grind
def alk:∀(n:Nat) (x y v:Nat->Rat) (h:Rat),0<=h->Le n x y->Nn n v->∃s,0<=s/\s<=h/\Le n (bF x v s) y/\(s=h\/∃i,i<n/\0<v i/\bF x v s i=y i)
 |0,x,y,v,h,h0,_,_=>⟨h,h0,aM,λi hi=>jb,.inl rfl⟩
 |n+1,x,y,v,h,h0,hl,hv=>by
  obtain⟨s,h1,h2,h3,h4⟩:=alk n x y v h h0 (λi hi=>hl i jb) (λi hi=>hv i jb);by_cases hc:bF x v s n<=y n
  .refine⟨s,h1,h2,λi hi=>?_,?_⟩
   .by_cases e:i=n
    .subst e;exact hc
    .exact h3 i jb
   .rcases h4 with h4|⟨i,hi,h5⟩
    .exact .inl h4
    .exact .inr ⟨i,jb,h5⟩
  .have hxn:=hl n jb;have hvn:=hv n jb;unfold bF at hc;have hp:0<v n:=by
    rcases Rat.le_iff_lt_or_eq.mp hvn with e|e
    .exact e
    .exfalso;rw[<-e]at hc;grind
   obtain⟨r,er⟩:∃r,r*v n=y n-x n:=⟨(y n-x n)/v n,cV kd⟩
   have hr0:0<=r:=by refine fw.mp λhlt=>?_;have:=dt hlt hp;grind
   have hrs:r<=s:=by refine fw.mp λhlt=>?_;have:=dt hlt hp;grind
   refine⟨r,hr0,by grind,λi hi=>?_,.inr ⟨n,jb,hp,by unfold bF;grind⟩⟩;by_cases e:i=n
   .subst e;unfold bF;grind
   .have a:=h3 i jb;have b:=be hrs (hv i jb);unfold bF at*;grind
def Z5{c:Nat->Rat}{t:Rat}{x v:Nat->Rat}{h:Rat}(hf:Fix F c t x)(hl:Lin F x v h)(hv:∀j,j<n->v j=mv n (F.M x) v j+c j){s:Rat}(h0:0<=s)(hs:s<=h):Fix F c (t+s) (bF x v s):=λj hj=>by rw[hl s h0 hs j hj];have:=hf j hj;grind[bF]
def Z7{c:Nat->Rat}{t:Rat}{x d:Nat->Rat}{h:Rat}(hf:Fix F c t x)(hl:Lin F x d h)(hd:∀j,j<n->d j=mv n (F.M x) d j){s:Rat}(h0:0<=s)(hs:s<=h):Fix F c t (bF x d s):=λj hj=>by rw[hl s h0 hs j hj];have:=hf j hj;grind[bF]
def Least(c:Nat->Rat)(t:Rat)(x:Nat->Rat):Prop:=∀t' y,Nn n y->Pre F c t' y->(t<t'\/(t=1/\t'=1))->Le n x y
theorem Least.zero(c:Nat->Rat)(t:Rat):Least F c t λ_=>0:=λ_ _ hy _ _ i hi=>hy i hi
def touch{c:Nat->Rat}{t t':Rat}{z y:Nat->Rat}(hz:Nn n z)(hzy:Le n z y)(hc:∀j,j<n->0<=c j)(hf:Fix F c t z)(hp:Pre F c t' y)(ht:t<t'){j:Nat}(hj:j<n)(he:y j<=z j):
  c j=0/\∀i,i<n->z i<y i->F.M z j i=0:=by
 have h1:=F.mono _ _ hz hzy j hj
 have h2:=hf j hj
 have h3:=hp j hj
 have h4:(t'-t)*c j<=0:=by grind
 have h5:c j<=0:=cancel (s:=t'-t) kd kd
 have h6:c j=0:=by grind
 refine⟨h6,UW F hz hzy hj (by rw[h6]at h2 h3;grind)⟩
def acS{c:Nat->Rat}{t:Rat}{x v:Nat->Rat}{h:Rat}(hx:Nn n x)(hv:Nn n v)(hc:∀j,j<n->0<=c j)(h0:0<=h)(hf:Fix F c t x)(hl:Lin F x v h)(hsm:Same F x v h)
  (hvm:∀j,j<n->v j=mv n (F.M x) v j+c j) (hno:∀S:Nat->Prop,(∃i,i<n/\S i)->(∀i,i<n->S i->0<v i)->¬Shut n (F.M x) S) (ht:t<1) (hL:Least F c t x):Least F c (t+h) (bF x v h):=by
 intro t' y hy hp ht'
 have hxy:Le n x y:=hL t' y hy hp (.inl kd)
 obtain⟨s,h1,h2,h3,h4⟩:=alk n x y v h h0 hxy hv
 rcases h4 with h4|⟨i,hi,hvi,hti⟩
 .grind
 by_cases hsh:s<h
 .exfalso
  have hz:=hx.step hv h1
  have hfz:=Z5 F hf hl hvm h1 (ec hsh)
  have htz:t+s<t':=by grind
  have Xi:=λj hj he=>touch F (j:=j) hz h3 hc hfz hp htz hj he
  obtain⟨w,ew⟩:∃w:Nat->Rat,w=λi=>if bF x v s i=y i then v i else 0:=⟨_,rfl⟩
  have hM:=F.sub hx
  have hws:=QB hM (w:=w) λj hj hw=>by
   have e:w j=if bF x v s j=y j then v j else 0:=by rw[ew]
   by_cases hq:bF x v s j=y j
   .rw[ab hq]at e;obtain⟨hc0,hm0⟩:=Xi j hj kd;have a:mv n (F.M x) w j=mv n (F.M x) v j:=aP λk hk=>by
     rw[ew];dsimp only;by_cases hk2:bF x v s k=y k
     .grind
     .have b:=hm0 k hk (by have:=h3 k hk;grind);rw[hsm s h1 hsh j k hj hk]at b;grind
    grind
   grind
  refine hno (λi=>0<w i) ⟨i,hi,?_⟩ (λk hk hw=>?_) hws
  .grind
  grind
 grind
def acT{c:Nat->Rat}{t:Rat}{x d:Nat->Rat}{h:Rat}(hx:Nn n x)(hd:Nn n d)(hc:∀j,j<n->0<=c j)(h0:0<=h)(hf:Fix F c t x)(hl:Lin F x d h)(hsm:Same F x d h)
  (hdm:∀j,j<n->d j=mv n (F.M x) d j) (hre:∀E:Nat->Prop,(∃i,i<n/\E i/\0<d i)->(∀j,j<n->E j->c j=0)->(∀j i,j<n->i<n->E j->F.M x j i≠0->E i)->False)
  (ht:t<1) (hL:Least F c t x):Least F c t (bF x d h):=by
 intro t' y hy hp ht'
 have hxy:Le n x y:=hL t' y hy hp ht'
 obtain⟨s,h1,h2,h3,h4⟩:=alk n x y d h h0 hxy hd
 rcases h4 with h4|⟨i,hi,hvi,hti⟩
 .grind
 by_cases hsh:s<h
 .exfalso
  have hz:=hx.step hd h1
  have hfz:=Z7 F hf hl hdm h1 (ec hsh)
  have Xi:=λj hj he=>touch F (j:=j) hz h3 hc hfz hp kd hj he
  refine hre (λi=>bF x d s i=y i) ⟨i,hi,hti,hvi⟩ (λj hj he=>(Xi j hj kd).1) λj k hj hk he hne=>?_
  refine bh λhk2=>hne ?_
  have b:=(Xi j hj kd).2 k hk (by have:=h3 k hk;grind)
  rwa[hsm s h1 hsh j k hj hk]at b
 grind
end
abbrev dN:=List (Int×Rat)
def aY:dN->Rat
 |[]=>0
 |p::t=>p.2+aY t
def gV:dN->Int->Rat
 |[],_=>0
 |p::t,c=>(if p.1=c then p.2 else 0)+gV t c
def NnT(t:dN):Prop:=∀p∈t,0<=p.2
theorem yD{t:dN}(h:NnT t)(c:Int):0<=gV t c:=by
 induction t with
 |nil=>rfl
 |cons p t ih=>
  have h1:=ih λq hq=>h q (by simp[hq])
  have h2:=h p kc
  grind[gV]
theorem Ov{t:dN}(h:NnT t)(c:Int):gV t c<=aY t:=by
 induction t with
 |nil=>rfl
 |cons p t ih=>
  have h1:=ih λq hq=>h q (by simp[hq])
  have h2:=h p kc
  grind[gV,aY]
def Ak{t:dN}(h:NnT t):0<=aY t:=cF (yD h 0) (Ov h 0)
abbrev gK:=List dN
def MZ(l:gK):Prop:=∀t∈l,NnT t
def iM:gK->Rat->Int->Rat
 |[],_,_=>0
 |t::l,m,c=>if m<aY t then gV t c*(m/aY t)else gV t c+iM l (m-aY t) c
def kK:gK->Rat->Rat->Int->Rat
 |[],_,_,_=>0
 |t::l,m,r,c=>if m<aY t then gV t c*(r/aY t)else kK l (m-aY t) r c
def nZ:gK->Rat->Option Rat
 |[],_=>none
 |t::l,m=>if m<aY t then some (aY t-m)else nZ l (m-aY t)
def dU:gK->Rat->Nat
 |[],_=>0
 |t::l,m=>if m<aY t then 0 else dU l (m-aY t)+1
def jG:gK->Rat->Rat
 |[],_=>0
 |t::l,m=>if m<aY t then m else aY t+jG l (m-aY t)
def jQ:gK->Rat
 |[]=>0
 |t::l=>aY t+jQ l
def MZ.tl{t:dN}{l:gK}(h:MZ (t::l)):NnT t/\MZ l:=⟨h t kc,λu hu=>h u (by simp[hu])⟩
theorem acU{a b:Rat}(ha:0<=a)(hb:0<b):0<=a/b:=by refine fw.mp λhlt=>?_;have h1:=dt hlt hb;grind[Rat.div_mul_cancel]
def zD{a b:Rat}(hb:0<b)(h:a<=b):a/b<=1:=by refine fw.mp λhlt=>?_;grind[Rat.mul_lt_mul_of_pos_right,Rat.div_mul_cancel]
theorem alm{a b c:Rat}(hb:0<b)(h:a<=c):a/b<=c/b:=by refine fw.mp λhlt=>?_;grind[Rat.mul_lt_mul_of_pos_right,Rat.div_mul_cancel]
theorem Fp{l:gK}(h:MZ l)(c:Int):iM l 0 c=0:=by
 induction l with
 |nil=>rfl
 |cons t l ih=>
  obtain⟨h1,h2⟩:=h.tl
  grind[iM,yD,Ov]
theorem Xk{l:gK}(h:MZ l)(c:Int):∀{m:Rat},0<=m->0<=iM l m c:=by
 induction l with
 |nil=>intro m _;rfl
 |cons t l ih=>
  intro m hm
  obtain⟨h1,h2⟩:=h.tl
  grind[iM,yD,Rat.mul_nonneg,acU]
def aln{l:gK}(h:MZ l)(c:Int){r:Rat}(hr:0<=r):∀{m:Rat},0<=m->0<=kK l m r c:=by
 induction l with
 |nil=>intro m _;rfl
 |cons t l ih=>
  intro m hm
  obtain⟨h1,h2⟩:=h.tl
  grind[kK,Rat.mul_nonneg,yD,acU]
def Xl(l:gK)(c:Int)(s r:Rat):∀m,kK l m (s*r) c=s*kK l m r c:=by
 induction l with
 |nil=>grind[kK]
 |cons t l ih=>
  grind[kK]
theorem Z8(l:gK)(c:Int)(m:Rat):kK l m 0 c=0:=by have:=Xl l c 0 0 m;grind
def Fq{l:gK}(h:MZ l)(c:Int):∀{m m':Rat},0<=m->m<=m'->iM l m c<=iM l m' c:=by
 induction l with
 |nil=>intro m m' _ _;rfl
 |cons t l ih=>
  intro m m' hm hle
  obtain⟨h1,h2⟩:=h.tl
  have hc:=yD h1 c
  unfold iM
  by_cases e:m<aY t
  .rw[ab e]
   by_cases e2:m'<aY t
   .grind[Rat.mul_le_mul_of_nonneg_left,alm]
   .rw[ae e2]
    have a:=cM (zD (a:=m) (b:=aY t) kd kd) hc
    grind[Xk]
  .rw[ae e,ae kd]
   have:=ih h2 (m:=m-aY t) (m':=m'-aY t) kd kd
   grind
theorem Am{l:gK}:∀{m g:Rat},nZ l m=some g->0<g:=by
 induction l with
 |nil=>intro m g h;cases h
 |cons t l ih=>
  grind[nZ]
def aeS{l:gK}(h:MZ l)(c:Int):∀{m g s:Rat},0<=m->nZ l m=some g->0<=s->s<=g->iM l (m+s) c=iM l m c+kK l m s c:=by
 induction l with
 |nil=>intro m g s _ hg;cases hg
 |cons t l ih=>
  intro m g s hm hg hs hle
  obtain⟨h1,h2⟩:=h.tl
  unfold nZ at hg
  unfold iM kK
  by_cases e:m<aY t
  .grind[Fp]
  .rw[ae e]at hg
   rw[ae e,ae e,ae kd,show m+s-aY t=m-aY t+s by grind,ih h2 kd hg hs hle]
   grind
def Z9{l:gK}(c:Int)(r:Rat):∀{m g s:Rat},nZ l m=some g->0<=s->s<g->kK l (m+s) r c=kK l m r c/\nZ l (m+s)=some (g-s):=by
 induction l with
 |nil=>intro m g s hg;cases hg
 |cons t l ih=>
  intro m g s hg hs hlt
  unfold nZ at hg⊢
  grind[kK]
def zG{l:gK}(c:Int)(r:Rat):∀{m s:Rat},nZ l m=none->0<=s->iM l (m+s) c=iM l m c/\kK l (m+s) r c=0/\nZ l (m+s)=none:=by
 induction l with
 |nil=>intro m s _ _;exact⟨rfl,rfl,rfl⟩
 |cons t l ih=>
  grind[nZ,kK,iM]
theorem QC(l:gK):∀m,dU l m<=l.length:=by
 induction l with
 |nil=>intro m;exact jp
 |cons t l ih=>
  grind[dU]
def JJ{l:gK}:∀{m m':Rat},m<=m'->dU l m<=dU l m':=by
 induction l with
 |nil=>intro m m' _;exact jp
 |cons t l ih=>
  intro m m' h
  unfold dU
  by_cases e:m<aY t
  .grind
  .rw[ae e,ae kd]
   have:=ih (m:=m-aY t) (m':=m'-aY t) kd
   omega
theorem aeT{l:gK}:∀{m g:Rat},nZ l m=some g->dU l m<dU l (m+g):=by
 induction l with
 |nil=>intro m g h;cases h
 |cons t l ih=>
  intro m g h
  unfold nZ at h
  unfold dU
  by_cases e:m<aY t
  .grind
  .rw[ae e]at h
   have h1:=Am h
   grind
def Ls{l:gK}(h:MZ l):∀{m m':Rat},0<=m->m<=m'->m-jG l m<=m'-jG l m':=by
 induction l with
 |nil=>grind[jG]
 |cons t l ih=>
  intro m m' hm hle
  obtain⟨h1,h2⟩:=h.tl
  unfold jG
  by_cases e:m<aY t
  .rw[ab e]
   by_cases e2:m'<aY t
   .rw[ab e2];grind
   .rw[ae e2]
    have a:=ih h2 (m:=0) (m':=m'-aY t) aM kd
    have b:jG l 0=0:=by
     clear ih a;induction l with
     |nil=>rfl
     |cons u l ih2=>
      obtain⟨h3,h4⟩:=h2.tl
      unfold jG
      split
      .rfl
      .have:=Ak h3
       have h5:aY u=0:=by grind
       rw[h5,show(0:Rat)-0=0 by grind,ih2 (λx hx=>by
        rcases bw.mp hx with rfl|hx
        .exact h1
        .exact h4 x hx) h4];grind
    grind
  .rw[ae e,ae kd]
   have:=ih h2 (m:=m-aY t) (m':=m'-aY t) kd kd
   grind
theorem QD{l:gK}:∀{m:Rat},0<=m->m<=jQ l->jG l m=m:=by
 induction l with
 |nil=>grind[jQ,jG]
 |cons t l ih=>
  grind[jQ,jG]
def aK{α:Type}:List α->(α->Rat)->Rat
 |[],_=>0
 |a::l,f=>f a+aK l f
section
variable {α:Type}
theorem fC{l:List α}{f g:α->Rat}(h:∀a∈l,f a=g a):aK l f=aK l g:=by
 induction l with
 |nil=>rfl
 |cons a l ih=>grind[aK]
def Fv(l:List α)(f g:α->Rat):aK l (λa=>f a+g a)=aK l f+aK l g:=by
 induction l with
 |nil=>unfold aK;grind
 |cons a l ih=>grind[aK]
def QF(l:List α)(f g:α->Rat):aK l (λa=>f a-g a)=aK l f-aK l g:=by
 induction l with
 |nil=>unfold aK;grind
 |cons a l ih=>grind[aK]
def zH(l:List α)(s:Rat)(f:α->Rat):aK l (λa=>s*f a)=s*aK l f:=by
 induction l with
 |nil=>unfold aK;grind
 |cons a l ih=>grind[aK]
def wH{l:List α}{f g:α->Rat}(h:∀a∈l,f a<=g a):aK l f<=aK l g:=by
 induction l with
 |nil=>rfl
 |cons a l ih=>
  grind[aK]
theorem jv{l:List α}{f:α->Rat}(h:∀a∈l,f a=0):aK l f=0:=by
 rw[fC (g:=λ_=>0) h];clear h;induction l with
 |nil=>rfl
 |cons a l ih=>grind[aK]
def oL{l:List α}{f:α->Rat}(h:∀a∈l,0<=f a):0<=aK l f:=by have:=wH (f:=λ_=>(0:Rat)) h;simp_all[jv]
def Gt{n:Nat}(l:List α)(f:α->Nat->Rat):aF n (λi=>aK l λa=>f a i)=aK l λa=>aF n (f a):=by
 induction l with
 |nil=>exact bP λ_ _=>rfl
 |cons a l ih=>simp_all[aK,dH]
end
structure fK where
 rk:gK
 ps:List (List Nat×gK)
def Cm(e:fK)(x:Rat)(c:Nat):Rat:=iM e.rk x c
def rts(e:fK)(x:Rat)(c:Nat):Rat:=kK e.rk x 1 c
def pooled(e:fK)(c:Nat):Bool:=e.ps.any λp=>p.1.contains c
def lN(e:fK)(x:Rat)(p:List Nat×gK):Rat:=aK p.1 (Cm e x)
def uV(e:fK)(x:Rat)(p:List Nat×gK):Rat:=aK p.1 (rts e x)
def uX(e:fK)(x:Rat)(c:Nat):Rat:=(if pooled e c then 0 else Cm e x c)+aK e.ps λp=>iM p.2 (lN e x p) c
def rsv(e:fK)(x:Rat):Rat:=aK e.ps λp=>iM p.2 (lN e x p) (-1)
def zI(e:fK)(x:Rat)(c:Nat):Rat:=(if pooled e c then 0 else rts e x c)+aK e.ps λp=>kK p.2 (lN e x p) (uV e x p) c
def A8(e:fK)(x:Rat):Rat:=aK e.ps λp=>kK p.2 (lN e x p) (uV e x p) (-1)
def kL(a b:Rat):Rat:=if a<=b then a else b
theorem aeU(a b:Rat):kL a b<=a/\kL a b<=b:=by grind[kL]
def Fz(e:fK)(x:Rat):List (List Nat×gK)->Rat->Rat
 |[],g=>g
 |p::l,g=>match nZ p.2 (lN e x p)with
  |some d=>if 0<uV e x p then Fz e x l (kL g (d/uV e x p))else Fz e x l g
  |none=>Fz e x l g
def JK(e:fK)(x:Rat):Option Rat:=match nZ e.rk x with
 |some g=>some (Fz e x e.ps g)
 |none=>none
def QG(e:fK)(x:Rat):List (List Nat×gK)->Nat
 |[]=>0
 |p::l=>(p.2.length-dU p.2 (lN e x p))+QG e x l
def opn(e:fK)(x:Rat):Nat:=(e.rk.length-dU e.rk x)+QG e x e.ps
structure CZ(e:fK):Prop where
 rk:MZ e.rk
 ps:∀p∈e.ps,MZ p.2
section
variable {e:fK}
theorem acV(h:CZ e){x:Rat}(hx:0<=x)(c:Nat):0<=Cm e x c:=Xk h.rk _ hx
theorem alo(h:CZ e){x:Rat}(hx:0<=x)(c:Nat):0<=rts e x c:=aln h.rk _ jj hx
def oI(h:CZ e){x:Rat}(hx:0<=x)(p:List Nat×gK):0<=lN e x p:=oL λ_ _=>acV h hx _
def Lu(h:CZ e){x:Rat}(hx:0<=x)(p:List Nat×gK):0<=uV e x p:=oL λ_ _=>alo h hx _
def FB(h:CZ e){x y:Rat}(hx:0<=x)(hy:x<=y)(p:List Nat×gK):lN e x p<=lN e y p:=wH λ_ _=>Fq h.rk _ hx hy
def QH(h:CZ e){x y:Rat}(hx:0<=x)(hy:x<=y)(c:Nat):uX e x c<=uX e y c:=by unfold uX;have h1:aK e.ps (λp=>iM p.2 (lN e x p) c)<=aK e.ps (λp=>iM p.2 (lN e y p) c):=wH λp hp=>Fq (h.ps p hp) _ (oI h hx p) (FB h hx hy p);have h2:Cm e x c<=Cm e y c:=Fq h.rk _ hx hy;grind
def alp(h:CZ e){x y:Rat}(hx:0<=x)(hy:x<=y):rsv e x<=rsv e y:=
 wH λp hp=>Fq (h.ps p hp) _ (oI h hx p) (FB h hx hy p)
def LC(h:CZ e){x:Rat}(hx:0<=x)(c:Nat):0<=uX e x c:=by unfold uX;have h1:0<=aK e.ps (λp=>iM p.2 (lN e x p) c):=oL λp hp=>Xk (h.ps p hp) _ (oI h hx p);grind[acV]
def uF(h:CZ e){x:Rat}(hx:0<=x)(c:Nat):0<=zI e x c:=by unfold zI;have h1:0<=aK e.ps (λp=>kK p.2 (lN e x p) (uV e x p) c):=oL λp hp=>aln (h.ps p hp) _ (Lu h hx p) (oI h hx p);grind[alo]
theorem yE(e:fK)(x:Rat):∀(l:List (List Nat×gK)) (g:Rat),Fz e x l g<=g/\∀p∈l,∀d,nZ p.2 (lN e x p)=some d->0<uV e x p->Fz e x l g<=d/uV e x p
 |[],g=>⟨aM,λp hp=>by cases hp⟩
 |p::l,g=>by
  unfold Fz;cases hg:nZ p.2 (lN e x p)with
  |none=>
   obtain⟨h1,h2⟩:=yE e x l g
   refine⟨h1,λq hq d hd hr=>?_⟩
   rcases bw.mp hq with rfl|hq
   .rw[hg]at hd;cases hd
   .exact h2 q hq d hd hr
  |some d0=>
   dsimp only
   by_cases hr0:0<uV e x p
   .rw[ab hr0]
    obtain⟨h1,h2⟩:=yE e x l (kL g (d0/uV e x p))
    obtain⟨h3,h4⟩:=aeU g (d0/uV e x p)
    refine⟨cF h1 h3,λq hq d hd hr=>?_⟩
    rcases bw.mp hq with rfl|hq
    .rw[hg]at hd;cases hd;exact cF h1 h4
    .exact h2 q hq d hd hr
   .rw[ae hr0]
    obtain⟨h1,h2⟩:=yE e x l g
    refine⟨h1,λq hq d hd hr=>?_⟩
    rcases bw.mp hq with rfl|hq
    .exact absurd hr hr0
    .exact h2 q hq d hd hr
theorem C9(e:fK)(x:Rat):∀(l:List (List Nat×gK)) (g:Rat),Fz e x l g=g\/∃p∈l,∃d,nZ p.2 (lN e x p)=some d/\0<uV e x p/\Fz e x l g=d/uV e x p
 |[],g=>.inl rfl
 |p::l,g=>by
  unfold Fz;cases hg:nZ p.2 (lN e x p)with
  |none=>
   rcases C9 e x l g with h|⟨q,hq,d,h1,h2,h3⟩
   .exact .inl h
   .exact .inr ⟨q,by simp[hq],d,h1,h2,h3⟩
  |some d0=>
   dsimp only
   by_cases hr0:0<uV e x p
   .rw[ab hr0]
    rcases C9 e x l (kL g (d0/uV e x p))with h|⟨q,hq,d,h1,h2,h3⟩
    .by_cases hm:g<=d0/uV e x p
     .exact .inl (by rw[h];unfold kL;rw[ab hm])
     .exact .inr ⟨p,by simp,d0,hg,hr0,by rw[h];unfold kL;rw[ae hm]⟩
    .exact .inr ⟨q,by simp[hq],d,h1,h2,h3⟩
   .rw[ae hr0]
    rcases C9 e x l g with h|⟨q,hq,d,h1,h2,h3⟩
    .exact .inl h
    .exact .inr ⟨q,by simp[hq],d,h1,h2,h3⟩
theorem div_pos{a b:Rat}(ha:0<a)(hb:0<b):0<a/b:=by refine Rat.not_le.mp λhle=>?_;have h1:=be hle (ec hb);grind[Rat.div_mul_cancel]
def Gu{x g:Rat}(h:JK e x=some g):0<g:=by grind[JK,C9,Am,div_pos]
theorem aeV(h:CZ e){x g s:Rat}(hx:0<=x)(hg:nZ e.rk x=some g)(h0:0<=s)(hs:s<=g)(c:Nat):Cm e (x+s) c=Cm e x c+s*rts e x c:=by unfold Cm rts;rw[aeS h.rk _ hx hg h0 hs];have:=Xl e.rk c s 1 x;grind
theorem Xm(h:CZ e){x g s:Rat}(hx:0<=x)(hg:nZ e.rk x=some g)(h0:0<=s)(hs:s<=g)(p:List Nat×gK):lN e (x+s) p=lN e x p+s*uV e x p:=by unfold lN uV;rw[<-zH,<-Fv];grind[fC,aeV]
theorem Ba{a b s:Rat}(hb:0<b)(h:s<=a/b):s*b<=a:=by grind[Rat.mul_le_mul_of_nonneg_right,Rat.div_mul_cancel]
theorem Bc{a b s:Rat}(hb:0<b)(h:s<a/b):s*b<a:=by grind[Rat.mul_lt_mul_of_pos_right,Rat.div_mul_cancel]
def alq(h:CZ e){x g s:Rat}(hx:0<=x)(hg:nZ e.rk x=some g)(h0:0<=s)(hs:s<=Fz e x e.ps g){p:List Nat×gK}(hp:p∈e.ps)(c:Int):
  iM p.2 (lN e (x+s) p) c=iM p.2 (lN e x p) c+s*kK p.2 (lN e x p) (uV e x p) c:=by
 obtain⟨h1,h2⟩:=yE e x e.ps g
 rw[Xm h hx hg h0 (cF hs h1),<-Xl]
 have hr:=Lu h hx p
 have hsr:=ce h0 hr
 cases hd:nZ p.2 (lN e x p)with
 |none=>
  obtain⟨a,-,-⟩:=zG (l:=p.2) c 0 hd hsr
  obtain⟨-,b,-⟩:=zG (l:=p.2) c (s*uV e x p) hd (s:=0) aM
  grind
 |some d=>
  refine aeS (h.ps p hp) c (oI h hx p) hd hsr ?_
  by_cases hr0:0<uV e x p
  .grind[Ba]
  .have:uV e x p=0:=by grind
   rw[this];have:=Am hd;grind
def Xn(h:CZ e){x g s:Rat}(hx:0<=x)(hg:JK e x=some g)(h0:0<=s)(hs:s<=g)(c:Nat):uX e (x+s) c=uX e x c+s*zI e x c:=by
 unfold JK at hg;split at hg
 .next g0 hg0=>
  cases hg;unfold uX zI;rw[fC (λp hp=>alq h hx hg0 h0 hs hp c),Fv,zH,aeV h hx hg0 h0 (cF hs (yE e x e.ps g0).1)];grind
 grind
def aac{x g s:Rat}(hg:nZ e.rk x=some g)(h0:0<=s)(hs:s<g)(c:Nat):rts e (x+s) c=rts e x c:=(Z9 _ _ hg h0 hs).1
def UY(h:CZ e){x g s:Rat}(hx:0<=x)(hg:nZ e.rk x=some g)(h0:0<=s)(hs:s<Fz e x e.ps g){p:List Nat×gK}(hp:p∈e.ps)(c:Int):
  kK p.2 (lN e (x+s) p) (uV e (x+s) p) c=kK p.2 (lN e x p) (uV e x p) c:=by
 obtain⟨h1,h2⟩:=yE e x e.ps g
 have hlt:s<g:=by grind
 rw[Xm h hx hg h0 (ec hlt)]
 have e1:uV e (x+s) p=uV e x p:=fC λc _=>aac hg h0 hlt c
 rw[e1]
 have hr:=Lu h hx p
 have hsr:=ce h0 hr
 cases hd:nZ p.2 (lN e x p)with
 |none=>
  obtain⟨-,a,-⟩:=zG (l:=p.2) c (uV e x p) hd hsr
  obtain⟨-,b,-⟩:=zG (l:=p.2) c (uV e x p) hd (s:=0) aM
  grind
 |some d=>
  refine(Z9 c _ hd hsr ?_).1
  by_cases hr0:0<uV e x p
  .grind[Bc]
  .have:uV e x p=0:=by grind
   rw[this];grind[Am]
def Gv(h:CZ e){x g s:Rat}(hx:0<=x)(hg:JK e x=some g)(h0:0<=s)(hs:s<g):(∀c,zI e (x+s) c=zI e x c)/\A8 e (x+s)=A8 e x:=by
 unfold JK at hg;split at hg
 .next g0 hg0=>
  cases hg;have hlt:s<g0:=by grind[yE]
  refine⟨λc=>?_,?_⟩
  .unfold zI;rw[fC (λp hp=>UY h hx hg0 h0 hs hp c),aac hg0 h0 hlt]
  .unfold A8;rw[fC (λp hp=>UY h hx hg0 h0 hs hp (-1))]
 grind
def aad(h:CZ e){x s:Rat}(hg:JK e x=none)(h0:0<=s):(∀c,uX e (x+s) c=uX e x c/\zI e (x+s) c=0)/\rsv e (x+s)=rsv e x/\A8 e (x+s)=0/\JK e (x+s)=none:=by
 unfold JK at hg;split at hg
 .cases hg
 .next hn=>
  have h1:∀c,Cm e (x+s) c=Cm e x c:=λc=>(zG (l:=e.rk) c 1 hn h0).1;have h2:∀c,rts e (x+s) c=0:=λc=>(zG (l:=e.rk) c 1 hn h0).2.1;have h3:∀p,lN e (x+s) p=lN e x p:=λp=>fC λc _=>h1 c;have h4:∀p,uV e (x+s) p=0:=λp=>jv λc _=>h2 c;refine⟨λc=>⟨?_,?_⟩,?_,?_,?_⟩
  .grind[uX]
  .grind[zI,jv,Z8]
  .grind[rsv]
  .grind[A8,jv,Z8]
  .unfold JK;rw[(zG (l:=e.rk) 0 1 hn h0).2.2]
def Gw(h:CZ e){x y:Rat}(hx:0<=x)(hy:x<=y):∀l,QG e y l<=QG e x l
 |[]=>jp
 |p::l=>by unfold QG;have:=Gw h hx hy l;have:=JJ (l:=p.2) (FB h hx hy p);omega
def aeW(h:CZ e){x y:Rat}(hx:0<=x)(hy:x<=y){p:List Nat×gK}(hlt:dU p.2 (lN e x p)<dU p.2 (lN e y p)):∀l,p∈l->QG e y l<QG e x l
 |q::l,hp=>by
  unfold QG;have h1:=JJ (l:=q.2) (FB h hx hy q);rcases bw.mp hp with rfl|hp
  .have:=Gw h hx hy l;grind[QC]
  .have:=aeW h hx hy hlt l hp;omega
def aae(h:CZ e){x y:Rat}(hx:0<=x)(hy:x<=y):opn e y<=opn e x:=by unfold opn;have:=Gw h hx hy e.ps;have:=JJ (l:=e.rk) hy;omega
def Dc(h:CZ e){x g:Rat}(hx:0<=x)(hg:JK e x=some g):opn e (x+g)<opn e x:=by
 have hp:=Gu hg;have hle:x<=x+g:=by grind
 unfold JK at hg;split at hg
 .next g0 hg0=>
  cases hg;unfold opn;rcases C9 e x e.ps g0 with h1|⟨p,hp,d,h1,h2,h3⟩
  .have a:=Gw h hx hle e.ps;grind[aeT,QC]
  .have b:dU p.2 (lN e x p)<dU p.2 (lN e (x+Fz e x e.ps g0) p):=by grind[Xm,yE,aeT]
   have:=aeW h hx hle b e.ps hp;have:=JJ (l:=e.rk) hle;omega
 grind
end
end Go.Proofs.Ins
