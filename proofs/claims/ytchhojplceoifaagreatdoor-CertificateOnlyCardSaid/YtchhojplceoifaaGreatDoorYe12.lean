import Derived.Test.YtchhojplceoifaaGreatDoorYe11
set_option linter.all false
noncomputable section
namespace Go.Proofs.Xe
open Go.RowKit Go.Proofs.Ins
def bV:Nat->(Nat->List B)->List B
 |0,_=>[]
 |n+1,G=>G 0++bV n λi=>G (i+1)
def Xb{e:Nat}:∀{n:Nat}{G:Nat->List B}{i:Nat},(∀j,(G j).length=e)->i<n->∃r,(bV n G).drop (i*e)=G i++r
 |0,_,_,_,h=>jb
 |n+1,G,0,_,_=>⟨bV n λi=>G (i+1),by rw[ir];rfl⟩
 |n+1,G,i+1,hG,h=>by obtain⟨r,hr⟩:=Xb (G:=λi=>G (i+1)) (i:=i) (λj=>hG (j+1)) (by omega:i<n);refine⟨r,?_⟩;show(G 0++bV n λi=>G (i+1)).drop _=_;rw[cB,fq,<-hG 0,List.drop_length_add_append,hG 0];exact hr
def y8{e n i k m:Nat}{G:Nat->List B}(g:Bool)(hG:∀j,(G j).length=e)(h:i<n)(hk:k+m<=e)(hm:0<m):zQ (bV n G) (i*e+k) m g=zQ (G i) k m g:=by
 obtain⟨r,hr⟩:=Xb hG h;have hd:(bV n G).drop (i*e+k)=(G i).drop k++r:=by rw[<-List.drop_drop,hr,List.drop_append_of_le_length kd]
 have hl:((G i).drop k).length=e-k:=by grind
 unfold zQ;grind
def ahl:∀(p:List B) (l:List B) (o:Nat) (vs:List B),yH (p++l) (p.length+o) vs=match yH l o vs with|some r=>some (p++r)|none=>none
 |[],l,o,vs=>by grind
 |x::p,l,o,vs=>by rw[gS,ce,show p.length+1+o=(p.length+o)+1 by omega,yH,ahl p l o vs];cases yH l o vs<;>rfl
def abT:∀(p:List B) (l:List B) (o:Nat) (vs:List B),o+vs.length<=p.length->yH (p++l) o vs=match yH p o vs with|some r=>some (r++l)|none=>none
 |p,l,0,vs,h=>by grind[yH,xH]
 |[],l,o+1,vs,h=>by simp at h
 |x::p,l,o+1,vs,h=>by rw[gS,yH,yH,abT p l o vs (by simp only[ce]at h;omega)];cases yH p o vs<;>rfl
def jk(G:Nat->List B)(i:Nat)(r:List B):Nat->List B:=λj=>if j=i then r else G j
def AV{e k:Nat}{vs:List B}:∀{n i:Nat}{G:Nat->List B},(∀j,(G j).length=e)->i<n->k+vs.length<=e->yH (bV n G) (i*e+k) vs=match yH (G i) k vs with|some r=>some (bV n (jk G i r))|none=>none
 |0,_,_,_,h,_=>jb
 |n+1,0,G,hG,_,hk=>by rw[ir,cP];show yH (G 0++_) k vs=_;rw[abT _ _ _ _ kd];rfl
 |n+1,i+1,G,hG,h,hk=>by
  show yH (G 0++bV n λi=>G (i+1)) _ vs=_;rw[show(i+1)*e+k=(G 0).length+(i*e+k) by rw[hG,cB];omega,ahl,AV (λj=>hG (j+1)) jb hk];cases yH (G (i+1)) k vs with
  |none=>rfl
  |some r=>
   show some _=some _
   congr 1
   show G 0++_=jk G (i+1) r 0++_
   congr 2
   funext j
   unfold jk
   simp only[Nat.add_right_cancel_iff]
theorem dB:∀{n:Nat}{G H:Nat->List B},(∀i,i<n->G i=H i)->bV n G=bV n H
 |0,_,_,_=>rfl
 |n+1,G,H,h=>by unfold bV;rw[h 0 jb,dB λi hi=>h (i+1) jb]
def Lh(z:List B):∀n,rep z n=bV n λ_=>z
 |0=>rfl
 |n+1=>by unfold rep bV;rw[Lh z n]
theorem kM:∀(n:Nat) (G:Nat->List B) (r:List B),bV n G++r=bV (n+1) (jk G n r)
 |0,G,r=>by grind[bV,jk]
 |n+1,G,r=>by rw[bV,il,kM n _ r];show _=jk G (n+1) r 0++bV (n+1) _;congr 2;funext j;unfold jk;simp only[Nat.add_right_cancel_iff]
def qU{e:Nat}:∀{n:Nat}{G:Nat->List B},(∀j,(G j).length=e)->(bV n G).length=n*e
 |0,_,_=>by simp[bV]
 |n+1,G,h=>by rw[bV,aD,h,qU λj=>h (j+1),cB];omega
def y9{h:Tr Bk}{b o n:Nat}{cs:List B}(e:ld h b o n true=some (.agg cs))(k m:Nat)(g:Bool)(hk:k+m<=n)(hm:0<m):ld h b (o+k) m g=zQ cs k m g:=by
 unfold ld at e⊢;cases hb:h b with
 |none=>grind
 |some bk=>
  rw[hb]at e
  dsimp only at e⊢
  cases hr:bk.rd with
  |false=>grind
  |true=>
   rw[hr]at e
   simp only[cD]at e⊢
   unfold zQ at e
   dsimp only at e
   cases hx:(Nat.beq ((bk.cells.drop o).take n).length n&&((bk.cells.drop o).take n).all B.kn)with
   |false=>grind
   |true=>
    rw[hx]at e
    cases e
    rw[af]at hx
    have hl:=ap hx.1
    rw[du]at hl
    unfold zQ
    cases g with
    |true=>
     grind[List.drop_take,List.drop_drop]
    |false=>
     dsimp only
     rw[List.drop_take,List.drop_drop]
     have hd:n-k=(n-k-1)+1:=jb
     grind
def AY{h:Tr Bk}{b o n:Nat}{cs:List B}(e:ld h b o n true=some (.agg cs))(m:Nat)(g:Bool)(hk:m<=n)(hm:0<m):ld h b o m g=zQ cs 0 m g:=y9 e 0 m g jb hm
def gy(q:Rat):List B:=[.bool (rn q),.str (rs q),.str (rd q)]
def cO(n:Nat)(f:Nat->Rat):List B:=bV n λi=>gy (f i)
def aN{α:Type}(f:Nat->α)(i:Nat)(q:α):Nat->α:=λj=>if j=i then q else f j
def Ui(n:Nat)(f:Nat->Rat)(i:Nat)(h:i<n):zQ (cO n f) (i*3) 3 true=some (.agg [.bool (rn (f i)),.str (rs (f i)),.str (rd (f i))]):=by unfold cO;have:=y8 (e:=3) (k:=0) (m:=3) (G:=λi=>gy (f i)) true (λ_=>rfl) h jj jj;rw[cF]at this;rw[this];rfl
def ama(n:Nat)(f:Nat->Rat)(i:Nat)(q:Rat)(h:i<n):yH (cO n f) (i*3) [.bool (rn q),.str (rs q),.str (rd q)]=some (cO n (aN f i q)):=by unfold cO;have:=AV (e:=3) (k:=0) (vs:=gy q) (G:=λi=>gy (f i)) (λ_=>rfl) h (cT 3);rw[cF]at this;show yH _ _ (gy q)=_;rw[this];show some _=some _;congr 2;funext j;unfold jk aN;split<;>rfl
theorem dJ{n:Nat}{f g:Nat->Rat}(h:∀i,i<n->f i=g i):cO n f=cO n g:=dB λi hi=>by grind
def ahm(n:Nat):rep [.bool (rn 0),.str (rs 0),.str (rd 0)] n=cO n λ_=>0:=Lh _ n
def ael(n:Nat)(f:Nat->Rat)(q:Rat):cO n f++[.bool (rn q),.str (rs q),.str (rd q)]=cO (n+1) (aN f n q):=by unfold cO;rw[show [B.bool (rn q),.str (rs q),.str (rd q)]=gy q from rfl,kM];congr 1;grind[jk,aN]
theorem NV(n:Nat)(f:Nat->Rat):(cO n f).length=n*3:=qU λ_=>rfl
def ones(n:Nat)(g:Nat->B):List B:=bV n λi=>[g i]
def abU(n:Nat)(g:Nat->B)(i:Nat)(h:i<n):zQ (ones n g) (i*1) 1 false=bif (g i).kn then some (.c (g i))else none:=by unfold ones;have:=y8 (e:=1) (k:=0) (m:=1) (G:=λi=>[g i]) false (λ_=>rfl) h jj jj;rw[cF]at this;rw[this];rfl
def amb(n:Nat)(g:Nat->B)(i:Nat)(x:B)(h:i<n):yH (ones n g) (i*1) [x]=some (ones n (aN g i x)):=by unfold ones;have:=AV (e:=1) (k:=0) (vs:=[x]) (G:=λi=>[g i]) (λ_=>rfl) h (cT 1);rw[cF]at this;rw[this];show some _=some _;congr 2;grind[jk,aN]
def bF{n:Nat}{f g:Nat->B}(h:∀i,i<n->f i=g i):ones n f=ones n g:=dB λi hi=>by grind
def ahn(x:B)(n:Nat):rep [x] n=ones n λ_=>x:=Lh _ n
theorem NW(n:Nat)(g:Nat->B):(ones n g).length=n*1:=qU λ_=>rfl
theorem aP{α:Type}(f:Nat->α)(i:Nat)(q:α):aN f i q i=q:=ab rfl
theorem aQ{α:Type}(f:Nat->α)(i j:Nat)(q:α)(h:j≠i):aN f i q j=f j:=ae h
def Uj:Option V->Nat->Option Nat
 |none,d=>some d
 |some v,_=>J8 v
def aho(b:Option O)(tm:Tr V)(d:Nat):Wh b tm d=Uj (b.map (·.ev tm)) d:=by cases b<;>rfl
def Uk(iC:Nat)(x:V)(lo hi mx:Option V):Option V:=
 match x with
 |.c (.sl b o n c)=>
  match Uj lo 0,Uj hi n with
  |some l,some h=>bif Nat.ble l h&&Nat.ble h n then
    match mx with
    |none=>(match c with
     |.ex k=>bif Nat.blt l k then some (.c (.sl b (o+l*iC) (h-l) (.ex (k-l))))else some (.c (.sl b o 0 .any))
     |.opn=>bif Nat.beq l 0 then some (.c (.sl b o h .opn))else bif Nat.blt l n then some (.c (.sl b (o+l*iC) (h-l) .any))else some (.c (.sl b o 0 .any))
     |.any=>bif Nat.blt l n then some (.c (.sl b (o+l*iC) (h-l) .any))else some (.c (.sl b o 0 .any)))
    |some y=>match J8 y with
     |some q=>bif Nat.ble h q&&Nat.ble q n then bif Nat.beq l 0 then some (.c (.sl b o h (bif Nat.beq n 0 then .any else .ex q)))else none else none
     |none=>none
   else none
  |_,_=>none
 |.c .aX=>match Uj lo 0,Uj hi 0 with
  |some 0,some 0=>(match mx with|none=>some (.c .aX)|some y=>match J8 y with|some 0=>some (.c .aX)|_=>none)
  |_,_=>none
 |_=>none
def Xc(iC:Nat)(x:O)(lo hi mx:Option O)(tm:Tr V):Nk iC x lo hi mx tm=Uk iC (x.ev tm) (lo.map (·.ev tm)) (hi.map (·.ev tm)) (mx.map (·.ev tm)):=by unfold Nk Uk;simp only[sO,aho];cases mx<;>rfl
def amc(E:Env)(tm:Tr V)(σ:St)(K:V->St->Prop)(iC:Nat)(x:O)(lo hi mx:Option O):wpOp E (.slice iC x lo hi mx) tm σ K=Gq (Uk iC (x.ev tm) (lo.map (·.ev tm)) (hi.map (·.ev tm)) (mx.map (·.ev tm))) λv=>K v σ:=by rw[iG _ _ _ _ (by rfl) λ_ _ h=>by cases h];show Gq (Nk iC x lo hi mx tm) _=_;rw[Xc]
def amd:B->Prop
 |.sl _ _ n (.ex k)=>n<=k
 |_=>True
def arx{v:B}{n h:Nat}(hc:amd v)(hv:(n=0/\v=.aX)\/∃b o c,v=.sl b o n c/\0<n)(hh:h<=n)(iC:Nat):∃v',Uk iC (.c v) none (some (.c (.int .i64 (.ofNat h)))) none=some (.c v')/\amd v'/\((n=0/\v'=.aX)\/∃b o c c',v=.sl b o n c/\v'=.sl b o h c'):=by
 rcases hv with⟨rfl,rfl⟩|⟨b,o,c,rfl,hn⟩
 .have:h=0:=jb;subst this;exact⟨.aX,rfl,trivial,.inl ⟨rfl,rfl⟩⟩
 .cases c with
  |ex k=>
   have hc:n<=k:=hc
   refine⟨.sl b o h (.ex k),?_,by show h<=k;omega,.inr ⟨b,o,_,_,rfl,rfl⟩⟩
   grind[Uk,Uj,J8,xH,H7]
  |opn=>
   refine⟨.sl b o h .opn,?_,trivial,.inr ⟨b,o,_,_,rfl,rfl⟩⟩
   grind[Uk,Uj,J8,xH,abQ]
  |any=>
   refine⟨.sl b o h .any,?_,trivial,.inr ⟨b,o,_,_,rfl,rfl⟩⟩
   grind[Uk,Uj,J8,xH,H7]
attribute [go_sem] amc Option.map_some Option.map_none
attribute [go_sem] Ui ama ahm abU amb ahn
structure aU(ex:List Nat)(σ σ':St):Prop where
 le:σ.aj<=σ'.aj
 wf:WF σ'
 old:∀b,b<σ.aj->¬b∈ex->σ'.h b=σ.h b
def Fr.ex{σ σ':St}(h:Fr σ σ')(ex:List Nat):aU ex σ σ':=⟨h.le,h.wf,λb hb _=>h.old b hb⟩
theorem aU.refl{σ:St}{ex:List Nat}(h:WF σ):aU ex σ σ:=(Fr.refl h).ex ex
def aU.trans{ex:List Nat}{σ σ' KD:St}(h:aU ex σ σ')(h':aU ex σ' KD):aU ex σ KD:=⟨aw h.le h'.le,h'.wf,λb hb hx=>(h'.old b (aL hb h.le) hx).trans (h.old b hb hx)⟩
def aU.to{ex:List Nat}{σ0 σ σ':St}(h:Fr σ0 σ)(he:aU ex σ σ')(hx:∀b∈ex,σ0.aj<=b):Fr σ0 σ':=⟨aw h.le he.le,he.wf,λb hb=>(he.old b (aL hb h.le) λhm=>by grind).trans (h.old b hb)⟩
def aU.to'{ex ex':List Nat}{σ0 σ σ':St}(h:aU ex' σ0 σ)(he:aU ex σ σ')(hx:∀b∈ex,σ0.aj<=b\/b∈ex'):aU ex' σ0 σ':=⟨aw h.le he.le,he.wf,λb hb hn=>(he.old b (aL hb h.le) λhm=>by grind).trans (h.old b hb hn)⟩
def aU.new1{ex:List Nat}{σ:St}{h:Tr Bk}{n:Nat}{k:Bk}(hf:aU ex σ ⟨h,n⟩):aU ex σ ⟨hset h n k,n+1⟩:=
 ⟨Nat.le_succ_of_le hf.le,λb hb=>by
  have hb:n+1<=b:=hb;show hset h n k b=none;rw[au _ _ _ _ jb];exact hf.wf b (show n<=b by omega),λb hb hx=>by
  show hset h n k b=_;have:σ.aj<=n:=hf.le;rw[au _ _ _ _ jb];exact hf.old b hb hx⟩
def aU.set1{ex:List Nat}{σ:St}{h:Tr Bk}{n b:Nat}{k:Bk}(hf:aU ex σ ⟨h,n⟩)(hb:σ.aj<=b\/b∈ex)(hb2:b<n):aU ex σ ⟨hset h b k,n⟩:=
 ⟨hf.le,λj hj=>by
  have hj:n<=j:=hj;show hset h b k j=none;rw[au _ _ _ _ jb];exact hf.wf j hj,λj hj hx=>by
  show hset h b k j=_;rw[au _ _ _ _ (λe=>by grind)];exact hf.old j hj hx⟩
theorem aU.ld{ex:List Nat}{σ σ':St}(h:WF σ)(hf:aU ex σ σ'){b o n:Nat}{g:Bool}{v:V}(hx:¬b∈ex)(hb:Xe.ld σ.h b o n g=some v):Xe.ld σ'.h b o n g=some v:=by have hlt:=h.dF hb;unfold Xe.ld at hb⊢;rw[hf.old b hlt hx];exact hb
def aU.get{ex:List Nat}{σ σ':St}(h:WF σ)(hf:aU ex σ σ'){b:Nat}{k:Bk}(hx:¬b∈ex)(hb:σ.h b=some k):σ'.h b=some k:=by rw[hf.old b (h.lt hb) hx];exact hb
def uK:Nat:=1000
def dK:Nat:=29000000
def eK:Nat:=29002000
def Zk(D k:Nat)(q:Rat):Prop:=∃a:Int,q=(a:Rat)/(D:Rat)/\a.natAbs<=k*(D*256^uK)
def Ce(D:Nat):Prop:=0<D/\D<256^dK
def ame{D k u d s a:Nat}(hD:D<256^d)(hk:k<=256^u)(hs:u+d+u<=s)(ha:a<=k*(D*256^u)):a<256^s:=by have h1:(256:Nat)^(u+d+u)<=256^s:=bL jj hs;refine da ha (aL ?_ h1);rw[eg,eg,gd];exact da (bw _ hk) (Nat.mul_lt_mul_of_pos_left (eL hD (dx jj)) (dx jj))
def Sm.int{k:Nat}{a:Int}(hk:k≠0)(h:a.natAbs<256^k):Sm k (a:Rat):=⟨by show(a:Rat).num.natAbs<_;simp_all,by simp_all⟩
section
variable {D k l:Nat} {p q:Rat}
def Ce.ne(h:Ce D):(D:Rat)≠0:=by have:=h.1;intro e;simp_all
def Zk.int{a:Int}(hD:Ce D)(hk:k<=256^uK)(h:a.natAbs<=k*(D*256^uK)):Sm eK (a:Rat):=Sm.int jj (ame hD.2 hk jj h)
def Zk.sz(h:Zk D k q)(hD:Ce D)(hk:k<=256^uK):Sz q:=by obtain⟨a,rfl,h2⟩:=h;have h3:Sm dK ((D:Int):Rat):=Sm.int jj hD.2;exact((Zk.int hD hk h2).div h3 hD.ne).mono jj
def Zk.ava(h:Zk D k p)(h':Zk D l q)(hD:Ce D)(hk:k<=256^uK)(hl:l<=256^uK)(h0:q≠0):Sz (p/q):=by
 obtain⟨a,rfl,h2⟩:=h;obtain⟨b,rfl,h3⟩:=h';have hb:(b:Rat)≠0:=λe=>h0 kd;have e:(a:Rat)/(D:Rat)/((b:Rat)/(D:Rat))=(a:Rat)/(b:Rat):=by grind
 rw[e];exact((Zk.int hD hk h2).div (Zk.int hD hl h3) hb).mono jj
def Zk.mono(h:Zk D k q)(hkl:k<=l):Zk D l q:=by obtain⟨a,e,h2⟩:=h;exact⟨a,e,aw h2 (bw _ hkl)⟩
theorem Zk.add(h:Zk D k p)(h':Zk D l q):Zk D (k+l) (p+q):=by
 obtain⟨a,rfl,h2⟩:=h;obtain⟨b,rfl,h3⟩:=h';refine⟨a+b,?_,?_⟩
 .rw[Rat.intCast_add];grind
 .rw[ij];omega
def Zk.neg(h:Zk D k p):Zk D k (-p):=by obtain⟨a,rfl,h2⟩:=h;refine⟨-a,?_,jb⟩;grind
def Zk.sub(h:Zk D k p)(h':Zk D l q):Zk D (k+l) (p-q):=by rw[jt];exact h.add h'.neg
theorem Zk.zero:Zk D k 0:=⟨0,by grind,by simp⟩
end
def hdel(h:Tr Bk)(b:Nat):Tr Bk:=h.set b none
theorem Ul(h:Tr Bk)(b j:Nat):hdel h b j=if j=b then none else h j:=Tr.uz h b none j
theorem iH(h:Tr Bk)(b j:Nat)(e:j≠b):hdel h b j=h j:=by grind[Ul]
def arz(h:Tr Bk)(b j o n:Nat)(g:Bool)(e:j≠b):ld (hdel h b) j o n g=ld h j o n g:=by grind[ld,iH]
def amf(o:Option (V×St))(K:V->St->Prop):Prop:=match o with|some (v,σ)=>K v σ|none=>False
@[congr] theorem arA {o o' : Option (V×St)} {K:V→St→Prop} (h:o=o'):amf o K=amf o' K:=by rw [h]
def aem(v:V)(σ:St)(K:V->St->Prop):amf (some (v,σ)) K=K v σ:=rfl
def ahp(ty iC bytes:Nat)(s x:V)(σ:St):Option (V×St):=
 match x with
 |.c .aX=>sS ty iC bytes s 0 [] σ
 |.c (.sl b o m _)=>bif Nat.beq m 0 then sS ty iC bytes s 0 [] σ else match σ.h b with
  |some k=>bif k.rd&&(Nat.beq ((k.cells.drop o).take (m*iC)).length (m*iC)&&((k.cells.drop o).take (m*iC)).all B.kn)then sS ty iC bytes s m ((k.cells.drop o).take (m*iC)) σ else none
  |none=>none
 |_=>none
def avb(E:Env)(tm:Tr V)(σ:St)(K:V->St->Prop)(ty iC bytes:Nat)(s x:O):wpOp E (.app ty iC bytes s x) tm σ K=amf (ahp ty iC bytes (s.ev tm) (x.ev tm) σ) K:=by rfl
def aen(ty iC bytes:Nat)(s:V)(σ:St):ahp ty iC bytes s (.c .aX) σ=sS ty iC bytes s 0 [] σ:=rfl
def ahq(ty iC bytes:Nat)(s:V)(b o:Nat)(c:Cap)(σ:St):ahp ty iC bytes s (.c (.sl b o 0 c)) σ=sS ty iC bytes s 0 [] σ:=rfl
def amg(ty iC bytes:Nat)(s:V)(b o m:Nat)(c:Cap)(σ:St)(hm:0<m):ahp ty iC bytes s (.c (.sl b o m c)) σ=match σ.h b with
  |some k=>bif k.rd&&(Nat.beq ((k.cells.drop o).take (m*iC)).length (m*iC)&&((k.cells.drop o).take (m*iC)).all B.kn)then sS ty iC bytes s m ((k.cells.drop o).take (m*iC)) σ else none
  |none=>none:=by
 grind[ahp,QY]
variable {ty iC bytes n m:Nat} {news:List B} {h:Tr Bk} {nx b:Nat}
def QZ(h1:0<m)(h2:0<iC)(h3:m*bytes<=140737488355328)(h4:m<=1073741824):sS ty iC bytes (.c .aX) m news ⟨h,nx⟩=some (.c (.sl nx 0 m .opn),⟨hset h nx ⟨news,some (iC,ty)⟩,nx+1⟩):=by grind[sS,QY,H7,xH,kL]
def apK(ty iC bytes n m:Nat)(news:List B)(b:Nat)(h:Tr Bk)(nx:Nat)(k:Option Bk):Option (V×St):=match k with
 |some ⟨cells,some (e,t)⟩=>bif Nat.blt 0 e&&Nat.beq 0 0&&(Nat.beq e iC&&(Nat.beq t ty&&(Nat.ble ((n+m)*bytes) 140737488355328&&(Nat.ble (n+m) 1073741824&&Nat.ble (n*iC) cells.length))))then
   some (.c (.sl nx 0 (n+m) .opn),⟨hset (hdel h b) nx ⟨cells.take (n*iC)++news,some (iC,ty)⟩,nx+1⟩)else none
 |_=>none
def ahr(h1:0<m):sS ty iC bytes (.c (.sl b 0 n .opn)) m news ⟨h,nx⟩=apK ty iC bytes n m news b h nx (h b):=by
 unfold sS apK;dsimp only;rw[QY (by omega:m≠0)];simp only[fT];split
 .next cells e t hk=>
  rw[hk];dsimp only;cases(Nat.blt 0 e&&Nat.beq 0 0&&(Nat.beq e iC&&(Nat.beq t ty&&(Nat.ble ((n+m)*bytes) 140737488355328&&(Nat.ble (n+m) 1073741824&&Nat.ble (n*iC) cells.length)))))with
  |false=>rfl
  |true=>
   simp only[cD,Tr.put,kL,sO]
   rfl
 simp
def Xd{cells:List B}(h2:0<iC)(h3:(n+m)*bytes<=140737488355328)(h4:n+m<=1073741824)(h5:n*iC<=cells.length):apK ty iC bytes n m news b h nx (some ⟨cells,some (iC,ty)⟩)=some (.c (.sl nx 0 (n+m) .opn),⟨hset (hdel h b) nx ⟨cells.take (n*iC)++news,some (iC,ty)⟩,nx+1⟩):=by simp_all[apK,H7,xH]
def aeo(b o n:Nat)(σ:St):sS ty iC bytes (.c (.sl b o n (.ex n))) 0 news σ=some (.c (.sl b o n (.ex n)),σ):=by simp_all[sS,xH]
def ahs(b o n:Nat)(σ:St):sS ty iC bytes (.c (.sl b o n .any)) 0 news σ=some (.c (.sl b o n .any),σ):=rfl
def Z7(σ:St)(h1:0<m)(h2:0<iC)(h3:m*bytes<=140737488355328)(h4:m<=1073741824):sS ty iC bytes (.c .aX) m news σ=some (.c (.sl σ.aj 0 m .opn),⟨hset σ.h σ.aj ⟨news,some (iC,ty)⟩,σ.aj+1⟩):=QZ h1 h2 h3 h4
def Z8(σ:St):sS ty iC bytes (.c .aX) 0 news σ=some (.c .aX,σ):=rfl
def Q5(σ:St)(h1:0<m):sS ty iC bytes (.c (.sl b 0 n .opn)) m news σ=apK ty iC bytes n m news b σ.h σ.aj (σ.h b):=ahr h1
def Z9{σ:St}(hb:σ.h b=some ⟨[],none⟩)(h1:0<m)(h2:0<iC)(h3:m*bytes<=140737488355328)(h4:m<=1073741824):sS ty iC bytes (.c (.sl b 0 0 (.ex 0))) m news σ=some (.c (.sl σ.aj 0 m .opn),⟨hset σ.h σ.aj ⟨news,some (iC,ty)⟩,σ.aj+1⟩):=by unfold sS;dsimp only;rw[QY (by omega:m≠0),hb];simp only[fT,Bk.rd,ir,cM,eA,H7 h2,cP,H7 h1,xH h3,xH h4,List.length_nil,eh,cD,kL,sO,ip,List.nil_append,Bool.true_and,cF];rfl
def Fr.nR{σ:St}{h:Tr Bk}{n b:Nat}(hf:Fr σ ⟨h,n⟩)(h1:σ.aj<=b):Fr σ ⟨hdel h b,n⟩:=
 ⟨hf.le,λj hj=>by
  show hdel h b j=none;rw[Ul];split
  .rfl
  .exact hf.wf j hj,λj hj=>by
  show hdel h b j=_;rw[iH _ _ _ jb];exact hf.old j hj⟩
def aU.nR{ex:List Nat}{σ:St}{h:Tr Bk}{n b:Nat}(hf:aU ex σ ⟨h,n⟩)(h1:σ.aj<=b\/b∈ex):aU ex σ ⟨hdel h b,n⟩:=
 ⟨hf.le,λj hj=>by
  show hdel h b j=none;rw[Ul];split
  .rfl
  .exact hf.wf j hj,λj hj hx=>by
  show hdel h b j=_;rw[iH _ _ _ (λe=>by grind)];exact hf.old j hj hx⟩
def aS:Nat->Nat->B
 |0,_=>.aX
 |n+1,b=>.sl b 0 (n+1) .opn
def kF:Nat->Tr Bk->Nat->Tr Bk
 |0,h,_=>h
 |_+1,h,b=>hdel h b
def sH:Nat->Tr Bk->Nat->Option Bk
 |0,_,_=>none
 |_+1,h,b=>h b
def gF(n:Nat)(G:Nat->List B)(e ty:Nat):Option Bk:=match n with
 |0=>none
 |n+1=>some ⟨bV (n+1) G,some (e,ty)⟩
def LG(G:Nat->List B)(e:Nat):Prop:=∀j,(G j).length=e
def apF(ty iC bytes n m:Nat)(news:List B)(b:Nat)(h:Tr Bk)(nx:Nat)(k:Option Bk):Option (V×St):=match n with
 |0=>sS ty iC bytes (.c .aX) m news ⟨h,nx⟩
 |n+1=>apK ty iC bytes (n+1) m news b h nx k
theorem Es(n b:Nat):(aS n b).kn=true:=by cases n<;>rfl
def H8(n b:Nat):lenV (.c (aS n b))=some (.c (.int .i64 (.ofNat n))):=by cases n<;>rfl
theorem dP(n:Nat)(h:Tr Bk)(b j:Nat)(e:n=0\/j≠b):kF n h b j=h j:=by
 cases n with
 |zero=>rfl
 |succ n=>exact iH _ _ _ jb
def amh(k:Nat)(h:Tr Bk)(b j o n:Nat)(g:Bool)(e:k=0\/j≠b):ld (kF k h b) j o n g=ld h j o n g:=by grind[ld,dP]
theorem uF{n:Nat}{h h':Tr Bk}{b:Nat}(e:n=0\/h' b=h b):sH n h' b=sH n h b:=by
 cases n with
 |zero=>rfl
 |succ n=>exact e.resolve_left jb
def aht(n:Nat)(h:Tr Bk)(j b:Nat)(k:Bk)(e:n=0\/b≠j):sH n (hset h j k) b=sH n h b:=uF (by grind[au])
def ahu(n k:Nat)(h:Tr Bk)(j b:Nat)(e:n=0\/k=0\/b≠j):sH n (kF k h j) b=sH n h b:=uF (by grind[dP])
def ahv(σ:St)(h1:0<m):sS ty iC bytes (.c (aS n b)) m news σ=apF ty iC bytes n m news b σ.h σ.aj (sH n σ.h b):=by
 cases n with
 |zero=>rfl
 |succ n=>exact Q5 σ h1
def arB{G:Nat->List B}(h1:0<m)(h2:0<iC)(h3:(n+m)*bytes<=140737488355328)(h4:n+m<=1073741824)(hG:LG G iC):apF ty iC bytes n m news b h nx (gF n G iC ty)=some (.c (.sl nx 0 (n+m) .opn),⟨hset (kF n h b) nx ⟨bV n G++news,some (iC,ty)⟩,nx+1⟩):=by
 cases n with
 |zero=>
  rw[cP]at h3 h4⊢
  exact QZ h1 h2 h3 h4
 |succ n=>
  show apK ty iC bytes (n+1) m news b h nx (some ⟨bV (n+1) G,some (iC,ty)⟩)=_
  rw[Xd h2 h3 h4 (by rw[qU hG];omega),<-qU (n:=n+1) hG,cC]
  rfl
def Fr.kF{σ:St}{h:Tr Bk}{n b k:Nat}(hf:Fr σ ⟨h,n⟩)(h1:k=0\/σ.aj<=b):Fr σ ⟨Xe.kF k h b,n⟩:=by
 cases k with
 |zero=>exact hf
 |succ k=>exact Fr.nR hf jb
def aU.kF{ex:List Nat}{σ:St}{h:Tr Bk}{n b k:Nat}(hf:aU ex σ ⟨h,n⟩)(h1:σ.aj<=b\/b∈ex):aU ex σ ⟨Xe.kF k h b,n⟩:=by
 cases k with
 |zero=>exact hf
 |succ k=>exact aU.nR hf h1
attribute [go_sem] Es H8 dP amh aht ahu ahv arB
def Fr.up{σ σ':St}{n:Nat}(hf:Fr σ σ')(hn:σ'.aj<=n):Fr σ ⟨σ'.h,n⟩:=⟨aw hf.le hn,λb hb=>hf.wf b (aw hn hb),hf.old⟩
def Fr.oH{σ:St}{h:Tr Bk}{n n':Nat}{k:Bk}(hf:Fr σ ⟨h,n⟩)(hn:n<n'):Fr σ ⟨hset h n k,n'⟩:=Fr.up (Fr.new1 hf) hn
theorem fr{σ σ':St}(h:Fr σ σ':=by repeat(first|assumption|exact Fr.refl (by assumption)|exact Fr.up (by assumption) kf|exact Fr.up (Fr.refl (by assumption)) kf|refine Fr.set1 ?_ kf kf|refine Fr.kF ?_ kf|refine Fr.nR ?_ kf|refine Fr.oH ?_ kf)):Fr σ σ':=h
def aU.up{ex:List Nat}{σ σ':St}{n:Nat}(hf:aU ex σ σ')(hn:σ'.aj<=n):aU ex σ ⟨σ'.h,n⟩:=⟨aw hf.le hn,λb hb=>hf.wf b (aw hn hb),hf.old⟩
def aU.oH{ex:List Nat}{σ:St}{h:Tr Bk}{n n':Nat}{k:Bk}(hf:aU ex σ ⟨h,n⟩)(hn:n<n'):aU ex σ ⟨hset h n k,n'⟩:=aU.up (aU.new1 hf) hn
def aC.st{E:Env}{f:Nat}{args:List V}{σ:St}{K:V->St->Prop}(P:St->Prop)(h:P σ)(h2:P σ->aC E f args σ K):aC E f args σ K:=h2 h
def bK.st{E:Env}{c:AC}{tm:Tr V}{σ:St}{Q:AX->Tr V->St->Prop}(P:St->Prop)(h:P σ)(h2:P σ->bK E c tm σ Q):bK E c tm σ Q:=h2 h
theorem Q7{e:Nat}{l:List B}:∀{n:Nat}{o:Nat}{G:Nat->List B},(∀i,i<n->zQ l (o+i*e) e true=some (.agg (G i)))->(l.drop o).take (n*e)=bV n G/\(bV n G).length=n*e/\(bV n G).all B.kn=true
 |0,o,G,_=>by rw[ir,cM];exact⟨rfl,rfl,rfl⟩
 |n+1,o,G,h=>by
  have h0:=h 0 jb;rw[ir,cF]at h0;unfold zQ at h0;dsimp only at h0;cases hx:(Nat.beq ((l.drop o).take e).length e&&((l.drop o).take e).all B.kn)with
  |false=>grind
  |true=>
   rw[hx]at h0
   have e0:(l.drop o).take e=G 0:=by grind
   rw[af]at hx
   have hl:=ap hx.1
   obtain⟨h1,h2,h3⟩:=Q7 (o:=o+e) (n:=n) (G:=λi=>G (i+1)) λi hi=>by have:=h (i+1) jb;rw[cB,fq (i*e),<-Nat.add_assoc]at this;exact this
   refine⟨?_,?_,?_⟩
   .unfold bV
    rw[<-e0,<-h1,<-List.drop_drop,cB,fq (n*e),List.take_add]
   .unfold bV
    rw[aD,h2,<-e0,hl,cB,fq]
   .unfold bV
    rw[List.all_append,h3,<-e0,hx.2];rfl
def Q8{h:Tr Bk}{e b o n:Nat}{G:Nat->List B}(hn:0<n)(hl:∀i,i<n->ld h b (o+i*e) e true=some (.agg (G i))):∃k,h b=some k/\k.rd=true/\(k.cells.drop o).take (n*e)=bV n G/\(bV n G).length=n*e/\(bV n G).all B.kn=true:=by grind[Go.Proofs.Xe.ld,Go.Proofs.Xe.Q7]
def aep(n:Nat)(f:Nat->Rat):(cO n f).take (n*3)=cO n f:=by grind[NV]
def aer(n:Nat)(g:Nat->B):(ones n g).take (n*1)=ones n g:=by grind[NW]
def ahw(n:Nat)(f:Nat->Rat):n*3<=(cO n f).length:=by grind[NV]
def ami(h1:0<m)(h2:0<iC)(h3:m*bytes<=140737488355328)(h4:m<=1073741824):sS ty iC bytes (.c (.sl b 0 0 (.ex 0))) m news ⟨hset h b ⟨[],none⟩,nx⟩=some (.c (.sl nx 0 m .opn),⟨hset (hset h b ⟨[],none⟩) nx ⟨news,some (iC,ty)⟩,nx+1⟩):=Z9 (aA _ _ _) h1 h2 h3 h4
def aac:∀{n:Nat}{G:Nat->List B},(∀j,(G j).all B.kn=true)->(bV n G).all B.kn=true
 |0,_,_=>rfl
 |n+1,G,h=>by unfold bV;rw[List.all_append,h 0,aac λj=>h (j+1)];rfl
def amj(n:Nat)(f:Nat->Rat):(cO n f).all B.kn=true:=aac λ_=>rfl
def avc:((Int.ofNat 1:Int):Rat)=1:=rfl
def avd:((Int.ofNat 0:Int):Rat)=0:=rfl
attribute [go_sem] ami amj Bool.not_true Bool.not_false avc avd iH arz aem avb aen amg ahq ahs Z7 Z8 Q5 Xd aeo aep aer NV NW ael
end Go.Proofs.Xe
namespace Go.Proofs.Xe
open Go.RowKit Go.Proofs.Ins
def NY(k:IntKind)(v:V):Option V:=match v with|.c (.int _ n)=>bif Ja k n then some (.c (.int k n))else some (.c (.int k (k.wrap n)))|_=>none
def arC(E:Env)(tm:Tr V)(σ:St)(K:V->St->Prop)(k:IntKind)(x:O):wpOp E (.conv k x) tm σ K=Gq (NY k (x.ev tm)) λv=>K v σ:=iG _ _ _ _ rfl λ_ _ h=>by cases h
def abV{k j:IntKind}{n:Int}(h:k.wrap n=n):NY k (.c (.int j n))=some (.c (.int k n)):=by grind[NY]
def arD(j:IntKind)(a:Nat)(h:a<=9223372036854775807):NY .i64 (.c (.int j (.ofNat a)))=some (.c (.int .i64 (.ofNat a))):=abV (by grind[IntKind.wrap_i64])
def arE(j:IntKind)(a:Nat)(h:a<=18446744073709551615):NY .u64 (.c (.int j (.ofNat a)))=some (.c (.int .u64 (.ofNat a))):=abV (by grind[IntKind.wrap_u64])
def arF(j:IntKind)(a:Nat):NY .u16 (.c (.int j (.ofNat a)))=some (.c (.int .u16 (.ofNat (a%65536)))):=by rfl
theorem Dh(op:BinOp)(k:IntKind)(a b:Int):nN op (.c (.int k a)) (.c (.int k b))=TL op k a b:=by unfold nN;simp
def ave(k:IntKind)(a b:Nat)(h:0<b):nN .rem (.c (.int k (.ofNat a))) (.c (.int k (.ofNat b)))=some (.c (.int k (.ofNat (a%b)))):=by grind[Dh,TL,BP]
def ahx(k:IntKind)(a b:Nat)(h:0<b)(hw:k.wrap (Int.ofNat (a/b))=Int.ofNat (a/b)):nN .quo (.c (.int k (.ofNat a))) (.c (.int k (.ofNat b)))=some (.c (.int k (.ofNat (a/b)))):=by grind[Dh,TL,BP]
def wJ(a b m:Nat)(h:a<=m):a/b<=m:=aw (ga _ _) h
def aes(a b:Nat)(h:0<b)(h2:a<=9223372036854775807):nN .quo (.c (.int .i64 (.ofNat a))) (.c (.int .i64 (.ofNat b)))=some (.c (.int .i64 (.ofNat (a/b)))):=ahx _ _ _ h (by have:=wJ a b _ h2;grind[IntKind.wrap_i64])
def aeu(a b:Nat)(h:0<b)(h2:a<=65535):nN .quo (.c (.int .u16 (.ofNat a))) (.c (.int .u16 (.ofNat b)))=some (.c (.int .u16 (.ofNat (a/b)))):=ahx _ _ _ h (by have:=wJ a b _ h2;grind[IntKind.wrap_u16])
def amk(k:IntKind)(a b:Nat)(ha:a<2^k.bits)(hb:b<2^k.bits):(BitVec.ofInt k.bits (Int.ofNat a)&&&BitVec.ofInt k.bits (Int.ofNat b)).toNat=a&&&b:=by grind
def aev(a b:Nat)(ha:a<=9223372036854775807)(hb:b<=9223372036854775807):nN .and (.c (.int .i64 (.ofNat a))) (.c (.int .i64 (.ofNat b)))=some (.c (.int .i64 (.ofNat (a&&&b)))):=by rw[Dh];unfold TL BP;dsimp only;rw[amk .i64 a b (by show a<18446744073709551616;omega) (by show b<18446744073709551616;omega),IntKind.wrap_i64];grind[Nat.and_le_left]
def aew(a b:Nat):nN .add (.c (.int .u16 (.ofNat a))) (.c (.int .u16 (.ofNat b)))=some (.c (.int .u16 (.ofNat ((a+b)%65536)))):=by rfl
def aex(a b:Nat):nN .mul (.c (.int .u16 (.ofNat a))) (.c (.int .u16 (.ofNat b)))=some (.c (.int .u16 (.ofNat (a*b%65536)))):=by rfl
def avf(a b:Nat)(h:a*b<=9223372036854775807):nN .mul (.c (.int .i64 (.ofNat a))) (.c (.int .i64 (.ofNat b)))=some (.c (.int .i64 (.ofNat (a*b)))):=by show mkI .i64 (Int.ofNat a*Int.ofNat b)=_;rw[show Int.ofNat a*Int.ofNat b=Int.ofNat (a*b)from rfl,Ug h]
def avg(k j:IntKind)(a c:Nat):nN .shr (.c (.int k (.ofNat a))) (.c (.int j (.ofNat c)))=some (.c (.int k (.ofNat (a/2^min c k.bits)))):=by
 have e:nN .shr (.c (.int k (.ofNat a))) (.c (.int j (.ofNat c)))=ZA .shr k (.ofNat a) (.ofNat c):=by
  unfold nN;dsimp only;by_cases h:k=j
  .subst h;rw[bh rfl];rfl
  grind
 rw[e];unfold ZA;grind
def ahy:IntKind.bits .i64=64:=rfl
def ahz:IntKind.bits .u16=16:=rfl
def ahA:IntKind.bits .u64=64:=rfl
def arG(k:IntKind)(a b:Int):nN .eql (.c (.int k a)) (.c (.int k b))=some (.c (.bool (decide (a=b)))):=by rw[Dh];rfl
def arH(k:IntKind)(a b:Int):nN .neq (.c (.int k a)) (.c (.int k b))=some (.c (.bool (!decide (a=b)))):=by rw[Dh];rfl
attribute [go_sem] arC arD arE arF ave aes aeu aev aew aex avf avg ahy ahz ahA arG arH
end Go.Proofs.Xe
namespace Go.Proofs.Ins
open Go.RowKit
def Own(w:World)(b sz n:Nat)(F:Nat->List Value):Prop:=
 ∃c T,w.heap[b]?=some (.cells c T (0,0))/\c.size=n*sz/\∀i j,i<n->j<sz->c[i*sz+j]?=(F i)[j]?
def aN(F:Nat->List Value)(i:Nat)(x:List Value)(k:Nat):List Value:=if k=i then x else F k
theorem aP(F:Nat->List Value)(i:Nat)(x:List Value):aN F i x i=x:=ab rfl
def lM.mono{w:World}{base base':Nat}{T:TypeId}{sz:Nat}{v:Value}{n:Nat}{F:Nat->List Value}(h:lM w base T sz v n F)(hb:base'<=base):lM w base' T sz v n F:=by
 obtain⟨⟨h1,h2⟩,h3⟩:=h;refine⟨⟨h1,?_⟩,h3⟩;rcases h2 with h2|⟨g,cap,cur,hv,hg,r⟩
 .exact .inl h2
 .exact .inr ⟨g,cap,cur,hv,aw hb hg,r⟩
def ix{α:Type}[Inhabited α](l:List α)(i:Nat):α:=l.getD i default
theorem fE{α:Type}[Inhabited α]{l:List α}{i:Nat}(h:i<l.length):ix l i=l[i]:=by grind[ix]
def Q9{α:Type}[Inhabited α](l:List α)(x:α)(i:Nat):ix (l++[x]) i=if i<l.length then ix l i else if i=l.length then x else default:=by grind[ix]
theorem lQ{α:Type}[Inhabited α]{l:List α}{i:Nat}(h:i<l.length):ix l i∈l:=by grind[fE]
def Um{α:Type}[Inhabited α]{l:List α}{i k:Nat}(h:i<k):ix (l.take k) i=ix l i:=by grind[ix]
theorem bW{α:Type}[Inhabited α]{l:List α}{k:Nat}(h:k<l.length):l.take (k+1)=l.take k++[ix l k]:=by grind[fE,List.take_add_one]
structure C5 where
 h:Int
 r:Int
 a:R3
instance:Inhabited C5:=⟨⟨0,0,default⟩⟩
def C5.c(x:C5):List Value:=[.int .i64 x.h,.int .i64 x.r,.bool x.a.n,.string x.a.s,.string x.a.d]
structure AZ where
 k:Int
 b:Bool
 a:R3
instance:Inhabited AZ:=⟨⟨0,false,default⟩⟩
def AZ.c(x:AZ):List Value:=[.int .i64 x.k,.bool x.b,.bool x.a.n,.string x.a.s,.string x.a.d]
structure Lg where
 e:Int
 k:Int
instance:Inhabited Lg:=⟨⟨0,0⟩⟩
def Lg.c(x:Lg):List Value:=[.int .i64 x.e,.int .i64 x.k]
abbrev KG:=List AZ
abbrev iI:=List KG
structure BR where
 m:R3
 c:List C5
 a:List iI
instance:Inhabited BR:=⟨⟨default,[],[]⟩⟩
structure yB where
 w:R3
 l:List Lg
instance:Inhabited yB:=⟨⟨default,[]⟩⟩
structure gB where
 e:List BR
 d:List yB
instance:Inhabited gB:=⟨⟨[],[]⟩⟩
def Sl(w:World)(p:Nat->Prop)(sz:Nat)(v:Value)(n:Nat)(G:Nat->List Value):Prop:=
 ∃a cap,v=.slice a n cap/\n<=cap/\cap<=9223372036854775807/\(n=0\/∃b off,a=some ⟨b,off,none⟩/\p b/\b<w.heap.size/\FT w b off sz n G)/\∀i,i<n->(G i).length=sz
theorem Sl.nil(w:World)(p:Nat->Prop)(sz:Nat)(G:Nat->List Value):Sl w p sz (.slice none 0 0) 0 G:=⟨none,0,rfl,jp,jb,.inl rfl,λi hi=>jb⟩
def Sl.mono{w:World}{p q:Nat->Prop}{sz:Nat}{v:Value}{n:Nat}{G:Nat->List Value}(h:Sl w p sz v n G)(hp:∀b,p b->q b):Sl w q sz v n G:=by obtain⟨a,cap,hv,h1,h2,h3,h4⟩:=h;refine⟨a,cap,hv,h1,h2,?_,h4⟩;grind
def Sl.keep{w w':World}{p:Nat->Prop}{sz:Nat}{v:Value}{n:Nat}{G:Nat->List Value}(h:Sl w p sz v n G)(hb:∀b,p b->b<w.heap.size->w'.heap[b]?=w.heap[b]?):Sl w' p sz v n G:=by
 obtain⟨a,cap,hv,h1,h2,h3,h4⟩:=h;refine⟨a,cap,hv,h1,h2,?_,h4⟩;rcases h3 with h3|⟨b,off,ha,hpb,hl,r⟩
 .omega
 .have e:=hb b hpb hl;refine .inr ⟨b,off,ha,hpb,?_,λi j hi hj=>?_⟩
  .grind
  .rw[World.cell?_of_block (w:=w) (a:=⟨b,off+i*sz+j,none⟩) e];exact r i j hi hj
def Sl.congr{w:World}{p:Nat->Prop}{sz:Nat}{v:Value}{n:Nat}{G G':Nat->List Value}(h:Sl w p sz v n G)(hg:∀i,i<n->G i=G' i):Sl w p sz v n G':=by
 obtain⟨a,cap,hv,h1,h2,h3,h4⟩:=h;refine⟨a,cap,hv,h1,h2,?_,λi hi=>by grind⟩;rcases h3 with h3|⟨b,off,ha,hpb,hl,r⟩
 .omega
 .exact .inr ⟨b,off,ha,hpb,hl,λi j hi hj=>by rw[<-hg i hi];exact r i j hi hj⟩
def RL{α:Type}[Inhabited α](w:World)(p:Nat->Prop)(sz:Nat)(Q:List Value->α->Prop)(v:Value)(l:List α):Prop:=
 ∃G,Sl w p sz v l.length G/\∀i,i<l.length->Q (G i) (ix l i)
theorem RL.imp{α:Type}[Inhabited α]{w w':World}{p q:Nat->Prop}{sz:Nat}{Q Q':List Value->α->Prop}{v:Value}{l:List α}(h:RL w p sz Q v l)(hp:∀b,p b->q b)
  (hb:∀b,p b->b<w.heap.size->w'.heap[b]?=w.heap[b]?) (hQ:∀c x,Q c x->Q' c x):RL w' q sz Q' v l:=by
 obtain⟨G,h1,h2⟩:=h
 exact⟨G,(h1.keep hb).mono hp,λi hi=>hQ _ _ (h2 i hi)⟩
def QV{α:Type}(c:α->List Value)(cs:List Value)(x:α):Prop:=cs=c x
def RL.plain{α:Type}[Inhabited α]{w:World}{p:Nat->Prop}{sz:Nat}{c:α->List Value}{v:Value}{l:List α}(h:RL w p sz (QV c) v l):Sl w p sz v l.length (λi=>c (ix l i)):=by obtain⟨G,h1,h2⟩:=h;exact h1.congr h2
def Di(w:World)(p:Nat->Prop)(v:Value)(l:List AZ):Prop:=RL w p 5 (QV AZ.c) v l
def abW(w:World)(p:Nat->Prop)(cs:List Value)(t:KG):Prop:=∃v,cs=[v]/\Di w p v t
def xI(w:World)(p:Nat->Prop)(v:Value)(l:iI):Prop:=RL w p 1 (abW w p) v l
structure Keeps(p:Nat->Prop)(w w':World):Prop where
 block:∀b,p b->b<w.heap.size->w'.heap[b]?=w.heap[b]?
def Keeps.of_below{p:Nat->Prop}{w w':World}(h:Below w.heap.size w w'):Keeps p w w':=⟨λb _ hb=>h.block b hb⟩
section
variable {w w' : World} {p q:Nat→Prop} {v:Value} {cs:List Value}
def Di.keep{l:List AZ}(h:Di w p v l)(k:Keeps p w w')(hp:∀b,p b->q b):Di w' q v l:=RL.imp h hp k.block λ_ _ h=>h
def abW.keep{t:KG}(h:abW w p cs t)(k:Keeps p w w')(hp:∀b,p b->q b):abW w' q cs t:=by obtain⟨v,e,h⟩:=h;exact⟨v,e,h.keep k hp⟩
def xI.keep{l:iI}(h:xI w p v l)(k:Keeps p w w')(hp:∀b,p b->q b):xI w' q v l:=RL.imp h hp k.block λ_ _ h=>h.keep k hp
def Di.on{l:List AZ}(h:Di w p v l)(k:Below w.heap.size w w'):Di w' p v l:=h.keep (.of_below k) λ_ h=>h
def xI.on{l:iI}(h:xI w p v l)(k:Below w.heap.size w w'):xI w' p v l:=h.keep (.of_below k) λ_ h=>h
end
def Sl.get{w:World}{p:Nat->Prop}{sz:Nat}{a:Option Addr}{n cap:Nat}{G:Nat->List Value}(h:Sl w p sz (.slice a n cap) n G)(hn:0<n):
  ∃b off,a=some ⟨b,off,none⟩/\p b/\b<w.heap.size/\FT w b off sz n G:=by
 obtain⟨a',cap',hv,h1,h2,h3,h4⟩:=h
 grind
def Sl.form{w:World}{p:Nat->Prop}{sz:Nat}{v:Value}{n:Nat}{G:Nat->List Value}(h:Sl w p sz v n G):∃a cap,v=.slice a n cap/\n<=cap/\cap<=9223372036854775807:=by obtain⟨a,cap,hv,h1,h2,_⟩:=h;grind
def lM.sl{w:World}{base:Nat}{T:TypeId}{sz:Nat}{v:Value}{n:Nat}{F:Nat->List Value}(h:lM w base T sz v n F):Sl w (λb=>base<=b) sz v n F:=by
 rcases h.form with⟨rfl,rfl⟩|⟨g,cap,rfl,hb,hn,hm,hl,hr⟩
 .grind[Sl.nil]
 .exact⟨_,cap,rfl,hn,hm,.inr ⟨g,0,rfl,hb,hl,hr⟩,h.2⟩
def Sl.cellAt{w w':World}{p:Nat->Prop}{sz n:Nat}{a:Option Addr}{cap:Nat}{G:Nat->List Value}(h:Sl w p sz (.slice a n cap) n G){b off:Nat}(ha:a=some ⟨b,off,none⟩)(k:Below w.heap.size w w'){i j:Nat}(hi:i<n)(hj:j<sz):
  w'.cell? ⟨b,off+i*sz+j,none⟩=(G i)[j]?:=by
 obtain⟨b',off',ha',-,hl,hr⟩:=h.get jb
 rw[ha]at ha'
 simp only[br,Addr.mk.injEq,and_true]at ha'
 obtain⟨rfl,rfl⟩:=ha'
 exact(hr.below k hl) i j hi hj
end Go.Proofs.Ins
namespace Go.Proofs.Xe
open Go.RowKit Go.Proofs.Ins
def xJ(N:Nat):Value->B
 |.int k n=>.int k n
 |.bool b=>.bool b
 |.string s=>.str s
 |.pointer (some a)=>if a.spot=none/\a.block<N then .ptr a.block a.off else .any
 |.pointer none=>.TJ
 |.slice (some a) n K=>if K<=9223372036854775807 then(if a.spot=none/\a.block<N/\n<=K then .sl a.block a.off n .any else if n=0 then .sl 0 0 0 .any else .any)else .any
 |.slice none 0 0=>.aX
 |_=>.any
def Ph.id(N:Nat):Ph:=λb=>if b<N then some (b,0)else none
theorem Eu(N:Nat)(v:Value)(h:(xJ N v).kn=true):RB (Ph.id N) (xJ N v) v:=by
 unfold xJ at h⊢;split at h<;>try rfl
 .next a=>
  split at h
  .next hc=>
   rw[ab hc];obtain⟨b,o,s⟩:=a;obtain⟨h1,h2⟩:=hc;dsimp only at h1 h2;subst h1;exact⟨(b,0),ab h2,rfl⟩
  .cases h
 .next a n K=>
  split at h
  .next hK=>
   rw[ab hK];split at h
   .next hc=>
    rw[ab hc];obtain⟨b,o,s⟩:=a;obtain⟨h1,h2,h3⟩:=hc;dsimp only at h1 h2;subst h1;exact .inl ⟨(b,0),K,ab h2,rfl,h3,hK,trivial⟩
   .next hc=>
    rw[ae hc];split at h
    .next h0=>
     subst h0;rw[ab rfl];exact .inr ⟨rfl,rfl,a,K,rfl,hK⟩
    .cases h
  .cases h
 .cases h
def St.of(w:World):St:=⟨.fn λb=>match w.heap[b]? with|some (.cells cs _ _)=>some ⟨cs.toList.map (xJ w.heap.size),some (0,1)⟩|_=>none,w.heap.size⟩
def WF.of(w:World):WF (St.of w):=λb hb=>by have hb:w.heap.size<=b:=hb;show(match w.heap[b]? with|some (.cells cs _ _)=>some _|_=>none)=none;grind
def Rel.of(w:World):Rel w.heap.size w (Ph.id w.heap.size) (St.of w) w where
 n0:=jp
 bel:=Below.refl _ _
 inj:=λb b' p p' h1 _ _ hN _ _=>by grind[Ph.id]
 lo:=λb p h=>by grind[Ph.id]
 fz:=λb k p hk _ _=>by
  have hk:(match w.heap[b]? with|some (.cells cs _ _)=>some (⟨cs.toList.map (xJ w.heap.size),some (0,1)⟩:Bk)|_=>none)=some k:=hk;split at hk
  .cases hk;exact⟨rfl,rfl⟩
  grind
 blk:=λb k p hk hp=>by
  have hp':p.1=b/\b<w.heap.size:=by grind[Ph.id]
  have hk:(match w.heap[b]? with|some (.cells cs _ _)=>some (⟨cs.toList.map (xJ w.heap.size),some (0,1)⟩:Bk)|_=>none)=some k:=hk;split at hk
  .next cs T z hcs=>
   cases hk;refine .inr (.inr ⟨rfl,rfl,λj x hj hx=>?_⟩);grind[Go.Proofs.Xe.Eu,Go.World.cell?]
  grind
 aj:=λb hb=>by have hb:w.heap.size<=b:=hb;refine⟨ae jb,?_⟩;show(match w.heap[b]? with|some (.cells cs _ _)=>some _|_=>none)=none;grind
def avh{w:World}{b o n:Nat}{l:List Value}(hn:l.length=n)(h0:0<n)(h:∀j v,l[j]?=some v->w.cell? ⟨b,o+j,none⟩=some v)(hk:∀v∈l,(xJ w.heap.size v).kn=true):
  ld (St.of w).h b o n true=some (.agg (l.map (xJ w.heap.size))):=by
 have hc:∃cs T z,w.heap[b]?=some (.cells cs T z)/\(cs.toList.drop o).take n=l:=by
  match l,hn with
  |v::l',hn=>
   have h1:=h 0 v rfl
   unfold World.cell? at h1
   dsimp only at h1
   split at h1
   .next cs T z e=>
    refine⟨cs,T,z,e,?_⟩
    apply List.ext_getElem?
    grind[Go.World.cell?]
   grind
  |[],hn=>simp at hn;omega
 obtain⟨cs,T,z,e,hl⟩:=hc
 have hg:(St.of w).h b=some ⟨cs.toList.map (xJ w.heap.size),some (0,1)⟩:=by show(match w.heap[b]? with|some (.cells cs _ _)=>some (⟨cs.toList.map (xJ w.heap.size),some (0,1)⟩:Bk)|_=>none)=_;rw[e]
 unfold ld
 rw[hg]
 show(bif true then _ else _)=_
 grind[zQ,List.map_drop,List.map_take,abQ]
def abX(N:Nat)(a:Addr)(n K:Nat):xJ N (.slice (some a) n K)=if K<=9223372036854775807 then(if a.spot=none/\a.block<N/\n<=K then .sl a.block a.off n .any else if n=0 then .sl 0 0 0 .any else .any)else .any:=rfl
def HL.of{w:World}{a:Option Addr}{n cap e:Nat}{F:Nat->List Value}(h:Zh w a n e F)(hf:(a=none/\n=0/\cap=0)\/∃x,a=some x)(hn:n<=cap)(hc:cap<=9223372036854775807)(he:0<e)(hF:∀i,i<n->(F i).length=e)(hk:∀i,i<n->∀v∈F i,(xJ w.heap.size v).kn=true):
  HL (St.of w).h e (xJ w.heap.size (.slice a n cap)) n λi=>(F i).map (xJ w.heap.size):=by
 rcases hf with⟨rfl,rfl,rfl⟩|⟨x,rfl⟩
 .exact .inl ⟨rfl,rfl⟩
 .by_cases h0:n=0
  .subst h0
   rw[abX,ab hc]
   split
   .exact .inr ⟨_,_,_,rfl,λi hi=>jb⟩
   .rw[ab rfl];exact .inr ⟨_,_,_,rfl,λi hi=>jb⟩
  .rcases h with h|⟨b,off,e1,hb,hr⟩
   .omega
   .cases e1
    rw[abX,ab hc,ab ⟨rfl,hb,hn⟩]
    refine .inr ⟨_,_,_,rfl,λi hi=>avh (hF i hi) he (λj v hj=>?_) (hk i hi)⟩
    have hlt:j<e:=by grind
    have:=hr i j hi hlt
    grind
end Go.Proofs.Xe
end
