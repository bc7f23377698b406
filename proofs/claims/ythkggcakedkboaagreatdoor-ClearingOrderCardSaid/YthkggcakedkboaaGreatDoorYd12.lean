import Derived.Test.YthkggcakedkboaaGreatDoorYd11
set_option linter.all false
noncomputable section
namespace Go.Proofs.Xe
open Go.RowKit Go.Proofs.Ins
def bD:Nat->(Nat->List B)->List B
 |0,_=>[]
 |n+1,G=>G 0++bD n λi=>G (i+1)
def Wx{e:Nat}:∀{n:Nat}{G:Nat->List B}{i:Nat},(∀j,(G j).length=e)->i<n->∃r,(bD n G).drop (i*e)=G i++r
 |0,_,_,_,h=>jb
 |n+1,G,0,_,_=>⟨bD n λi=>G (i+1),by rw[iz];rfl⟩
 |n+1,G,i+1,hG,h=>by obtain⟨r,hr⟩:=Wx (G:=λi=>G (i+1)) (i:=i) (λj=>hG (j+1)) (by omega:i<n);refine⟨r,?_⟩;show(G 0++bD n λi=>G (i+1)).drop _=_;rw[cA,ff,<-hG 0,List.drop_length_add_append,hG 0];exact hr
def wU{e n i k m:Nat}{G:Nat->List B}(g:Bool)(hG:∀j,(G j).length=e)(h:i<n)(hk:k+m<=e)(hm:0<m):zk (bD n G) (i*e+k) m g=zk (G i) k m g:=by
 obtain⟨r,hr⟩:=Wx hG h;have hd:(bD n G).drop (i*e+k)=(G i).drop k++r:=by rw[<-List.drop_drop,hr,List.drop_append_of_le_length kd]
 have hl:((G i).drop k).length=e-k:=by grind
 unfold zk;grind
def agT:∀(p:List B) (l:List B) (o:Nat) (vs:List B),xQ (p++l) (p.length+o) vs=match xQ l o vs with|some r=>some (p++r)|none=>none
 |[],l,o,vs=>by grind
 |x::p,l,o,vs=>by rw[gx,bV,show p.length+1+o=(p.length+o)+1 by omega,xQ,agT p l o vs];cases xQ l o vs<;>rfl
def abj:∀(p:List B) (l:List B) (o:Nat) (vs:List B),o+vs.length<=p.length->xQ (p++l) o vs=match xQ p o vs with|some r=>some (r++l)|none=>none
 |p,l,0,vs,h=>by grind[xQ,uo]
 |[],l,o+1,vs,h=>by simp at h
 |x::p,l,o+1,vs,h=>by rw[gx,xQ,xQ,abj p l o vs (by simp only[bV]at h;omega)];cases xQ p o vs<;>rfl
def iT(G:Nat->List B)(i:Nat)(r:List B):Nat->List B:=λj=>if j=i then r else G j
def yN{e k:Nat}{vs:List B}:∀{n i:Nat}{G:Nat->List B},(∀j,(G j).length=e)->i<n->k+vs.length<=e->xQ (bD n G) (i*e+k) vs=match xQ (G i) k vs with|some r=>some (bD n (iT G i r))|none=>none
 |0,_,_,_,h,_=>jb
 |n+1,0,G,hG,_,hk=>by rw[iz,cN];show xQ (G 0++_) k vs=_;rw[abj _ _ _ _ kd];rfl
 |n+1,i+1,G,hG,h,hk=>by
  show xQ (G 0++bD n λi=>G (i+1)) _ vs=_;rw[show(i+1)*e+k=(G 0).length+(i*e+k) by rw[hG,cA];omega,agT,yN (λj=>hG (j+1)) jb hk];cases xQ (G (i+1)) k vs with
  |none=>rfl
  |some r=>
   show some _=some _
   congr 1
   show G 0++_=iT G (i+1) r 0++_
   congr 2
   funext j
   unfold iT
   simp only[Nat.add_right_cancel_iff]
theorem bF:∀{n:Nat}{G H:Nat->List B},(∀i,i<n->G i=H i)->bD n G=bD n H
 |0,_,_,_=>rfl
 |n+1,G,H,h=>by unfold bD;rw[h 0 jb,bF λi hi=>h (i+1) jb]
def KG(z:List B):∀n,rep z n=bD n λ_=>z
 |0=>rfl
 |n+1=>by unfold rep bD;rw[KG z n]
theorem jI:∀(n:Nat) (G:Nat->List B) (r:List B),bD n G++r=bD (n+1) (iT G n r)
 |0,G,r=>by grind[bD,iT]
 |n+1,G,r=>by rw[bD,hJ,jI n _ r];show _=iT G (n+1) r 0++bD (n+1) _;congr 2;funext j;unfold iT;simp only[Nat.add_right_cancel_iff]
theorem oH{e:Nat}:∀{n:Nat}{G:Nat->List B},(∀j,(G j).length=e)->(bD n G).length=n*e
 |0,_,_=>by simp[bD]
 |n+1,G,h=>by rw[bD,az,h,oH λj=>h (j+1),cA];omega
def yO{h:Tr Bk}{b o n:Nat}{cs:List B}(e:ld h b o n true=some (.agg cs))(k m:Nat)(g:Bool)(hk:k+m<=n)(hm:0<m):ld h b (o+k) m g=zk cs k m g:=by
 unfold ld at e⊢;cases hb:h b with
 |none=>grind
 |some bk=>
  rw[hb]at e
  dsimp only at e⊢
  cases hr:bk.rd with
  |false=>grind
  |true=>
   rw[hr]at e
   simp only[cj]at e⊢
   unfold zk at e
   dsimp only at e
   cases hx:(Nat.beq ((bk.cells.drop o).take n).length n&&((bk.cells.drop o).take n).all B.kn)with
   |false=>grind
   |true=>
    rw[hx]at e
    cases e
    rw[af]at hx
    have hl:=ap hx.1
    rw[dc]at hl
    unfold zk
    cases g with
    |true=>
     grind[List.drop_take,List.drop_drop]
    |false=>
     dsimp only
     rw[List.drop_take,List.drop_drop]
     have hd:n-k=(n-k-1)+1:=jb
     grind
def Aj{h:Tr Bk}{b o n:Nat}{cs:List B}(e:ld h b o n true=some (.agg cs))(m:Nat)(g:Bool)(hk:m<=n)(hm:0<m):ld h b o m g=zk cs 0 m g:=yO e 0 m g jb hm
def gX(q:Rat):List B:=[.bool (rn q),.str (rs q),.str (rd q)]
def bZ(n:Nat)(f:Nat->Rat):List B:=bD n λi=>gX (f i)
def aO{α:Type}(f:Nat->α)(i:Nat)(q:α):Nat->α:=λj=>if j=i then q else f j
def TA(n:Nat)(f:Nat->Rat)(i:Nat)(h:i<n):zk (bZ n f) (i*3) 3 true=some (.agg [.bool (rn (f i)),.str (rs (f i)),.str (rd (f i))]):=by unfold bZ;have:=wU (e:=3) (k:=0) (m:=3) (G:=λi=>gX (f i)) true (λ_=>rfl) h jj jj;rw[cB]at this;rw[this];rfl
def alv(n:Nat)(f:Nat->Rat)(i:Nat)(q:Rat)(h:i<n):xQ (bZ n f) (i*3) [.bool (rn q),.str (rs q),.str (rd q)]=some (bZ n (aO f i q)):=by unfold bZ;have:=yN (e:=3) (k:=0) (vs:=gX q) (G:=λi=>gX (f i)) (λ_=>rfl) h (cK 3);rw[cB]at this;show xQ _ _ (gX q)=_;rw[this];show some _=some _;congr 2;funext j;unfold iT aO;split<;>rfl
theorem dN{n:Nat}{f g:Nat->Rat}(h:∀i,i<n->f i=g i):bZ n f=bZ n g:=bF λi hi=>by grind
def agU(n:Nat):rep [.bool (rn 0),.str (rs 0),.str (rd 0)] n=bZ n λ_=>0:=KG _ n
def adO(n:Nat)(f:Nat->Rat)(q:Rat):bZ n f++[.bool (rn q),.str (rs q),.str (rd q)]=bZ (n+1) (aO f n q):=by unfold bZ;rw[show [B.bool (rn q),.str (rs q),.str (rd q)]=gX q from rfl,jI];congr 1;grind[iT,aO]
theorem Nv(n:Nat)(f:Nat->Rat):(bZ n f).length=n*3:=oH λ_=>rfl
def ones(n:Nat)(g:Nat->B):List B:=bD n λi=>[g i]
def abk(n:Nat)(g:Nat->B)(i:Nat)(h:i<n):zk (ones n g) (i*1) 1 false=bif (g i).kn then some (.c (g i))else none:=by unfold ones;have:=wU (e:=1) (k:=0) (m:=1) (G:=λi=>[g i]) false (λ_=>rfl) h jj jj;rw[cB]at this;rw[this];rfl
def alx(n:Nat)(g:Nat->B)(i:Nat)(x:B)(h:i<n):xQ (ones n g) (i*1) [x]=some (ones n (aO g i x)):=by unfold ones;have:=yN (e:=1) (k:=0) (vs:=[x]) (G:=λi=>[g i]) (λ_=>rfl) h (cK 1);rw[cB]at this;rw[this];show some _=some _;congr 2;grind[iT,aO]
def dS{n:Nat}{f g:Nat->B}(h:∀i,i<n->f i=g i):ones n f=ones n g:=bF λi hi=>by grind
def agV(x:B)(n:Nat):rep [x] n=ones n λ_=>x:=KG _ n
theorem Nw(n:Nat)(g:Nat->B):(ones n g).length=n*1:=oH λ_=>rfl
theorem aN{α:Type}(f:Nat->α)(i:Nat)(q:α):aO f i q i=q:=ab rfl
theorem aP{α:Type}(f:Nat->α)(i j:Nat)(q:α)(h:j≠i):aO f i q j=f j:=ae h
def TB:Option V->Nat->Option Nat
 |none,d=>some d
 |some v,_=>JL v
def agW(b:Option O)(tm:Tr V)(d:Nat):VB b tm d=TB (b.map (·.ev tm)) d:=by cases b<;>rfl
def TD(fZ:Nat)(x:V)(lo hi mx:Option V):Option V:=
 match x with
 |.c (.sl b o n c)=>
  match TB lo 0,TB hi n with
  |some l,some h=>bif Nat.ble l h&&Nat.ble h n then
    match mx with
    |none=>(match c with
     |.ex k=>bif Nat.blt l k then some (.c (.sl b (o+l*fZ) (h-l) (.ex (k-l))))else some (.c (.sl b o 0 .any))
     |.opn=>bif Nat.beq l 0 then some (.c (.sl b o h .opn))else bif Nat.blt l n then some (.c (.sl b (o+l*fZ) (h-l) .any))else some (.c (.sl b o 0 .any))
     |.any=>bif Nat.blt l n then some (.c (.sl b (o+l*fZ) (h-l) .any))else some (.c (.sl b o 0 .any)))
    |some y=>match JL y with
     |some q=>bif Nat.ble h q&&Nat.ble q n then bif Nat.beq l 0 then some (.c (.sl b o h (bif Nat.beq n 0 then .any else .ex q)))else none else none
     |none=>none
   else none
  |_,_=>none
 |.c .aV=>match TB lo 0,TB hi 0 with
  |some 0,some 0=>(match mx with|none=>some (.c .aV)|some y=>match JL y with|some 0=>some (.c .aV)|_=>none)
  |_,_=>none
 |_=>none
def Wy(fZ:Nat)(x:O)(lo hi mx:Option O)(tm:Tr V):MC fZ x lo hi mx tm=TD fZ (x.ev tm) (lo.map (·.ev tm)) (hi.map (·.ev tm)) (mx.map (·.ev tm)):=by unfold MC TD;simp only[ql,agW];cases mx<;>rfl
def aly(E:Env)(tm:Tr V)(σ:St)(K:V->St->Prop)(fZ:Nat)(x:O)(lo hi mx:Option O):wpOp E (.slice fZ x lo hi mx) tm σ K=Gf (TD fZ (x.ev tm) (lo.map (·.ev tm)) (hi.map (·.ev tm)) (mx.map (·.ev tm))) λv=>K v σ:=by rw[iq _ _ _ _ (by rfl) λ_ _ h=>by cases h];show Gf (MC fZ x lo hi mx tm) _=_;rw[Wy]
def alz:B->Prop
 |.sl _ _ n (.ex k)=>n<=k
 |_=>True
def aqr{v:B}{n h:Nat}(hc:alz v)(hv:(n=0/\v=.aV)\/∃b o c,v=.sl b o n c/\0<n)(hh:h<=n)(fZ:Nat):∃v',TD fZ (.c v) none (some (.c (.int .i64 (.ofNat h)))) none=some (.c v')/\alz v'/\((n=0/\v'=.aV)\/∃b o c c',v=.sl b o n c/\v'=.sl b o h c'):=by
 rcases hv with⟨rfl,rfl⟩|⟨b,o,c,rfl,hn⟩
 .have:h=0:=jb;subst this;exact⟨.aV,rfl,trivial,.inl ⟨rfl,rfl⟩⟩
 .cases c with
  |ex k=>
   have hc:n<=k:=hc
   refine⟨.sl b o h (.ex k),?_,by show h<=k;omega,.inr ⟨b,o,_,_,rfl,rfl⟩⟩
   grind[TD,TB,JL,uo,Fa]
  |opn=>
   refine⟨.sl b o h .opn,?_,trivial,.inr ⟨b,o,_,_,rfl,rfl⟩⟩
   grind[TD,TB,JL,uo,Wp]
  |any=>
   refine⟨.sl b o h .any,?_,trivial,.inr ⟨b,o,_,_,rfl,rfl⟩⟩
   grind[TD,TB,JL,uo,Fa]
attribute [go_sem] aly Option.map_some Option.map_none
attribute [go_sem] TA alv agU abk alx agV
structure aT(ex:List Nat)(σ σ':St):Prop where
 le:σ.aj<=σ'.aj
 wf:WF σ'
 old:∀b,b<σ.aj->¬b∈ex->σ'.h b=σ.h b
def Fr.ex{σ σ':St}(h:Fr σ σ')(ex:List Nat):aT ex σ σ':=⟨h.le,h.wf,λb hb _=>h.old b hb⟩
theorem aT.refl{σ:St}{ex:List Nat}(h:WF σ):aT ex σ σ:=(Fr.refl h).ex ex
def aT.trans{ex:List Nat}{σ σ' MS:St}(h:aT ex σ σ')(h':aT ex σ' MS):aT ex σ MS:=⟨av h.le h'.le,h'.wf,λb hb hx=>(h'.old b (aE hb h.le) hx).trans (h.old b hb hx)⟩
def aT.to{ex:List Nat}{σ0 σ σ':St}(h:Fr σ0 σ)(he:aT ex σ σ')(hx:∀b∈ex,σ0.aj<=b):Fr σ0 σ':=⟨av h.le he.le,he.wf,λb hb=>(he.old b (aE hb h.le) λhm=>by grind).trans (h.old b hb)⟩
def aT.to'{ex ex':List Nat}{σ0 σ σ':St}(h:aT ex' σ0 σ)(he:aT ex σ σ')(hx:∀b∈ex,σ0.aj<=b\/b∈ex'):aT ex' σ0 σ':=⟨av h.le he.le,he.wf,λb hb hn=>(he.old b (aE hb h.le) λhm=>by grind).trans (h.old b hb hn)⟩
def aT.new1{ex:List Nat}{σ:St}{h:Tr Bk}{n:Nat}{k:Bk}(hf:aT ex σ ⟨h,n⟩):aT ex σ ⟨hset h n k,n+1⟩:=
 ⟨Nat.le_succ_of_le hf.le,λb hb=>by
  have hb:n+1<=b:=hb;show hset h n k b=none;rw[ak _ _ _ _ jb];exact hf.wf b (show n<=b by omega),λb hb hx=>by
  show hset h n k b=_;have:σ.aj<=n:=hf.le;rw[ak _ _ _ _ jb];exact hf.old b hb hx⟩
def aT.set1{ex:List Nat}{σ:St}{h:Tr Bk}{n b:Nat}{k:Bk}(hf:aT ex σ ⟨h,n⟩)(hb:σ.aj<=b\/b∈ex)(hb2:b<n):aT ex σ ⟨hset h b k,n⟩:=
 ⟨hf.le,λj hj=>by
  have hj:n<=j:=hj;show hset h b k j=none;rw[ak _ _ _ _ jb];exact hf.wf j hj,λj hj hx=>by
  show hset h b k j=_;rw[ak _ _ _ _ (λe=>by grind)];exact hf.old j hj hx⟩
theorem aT.ld{ex:List Nat}{σ σ':St}(h:WF σ)(hf:aT ex σ σ'){b o n:Nat}{g:Bool}{v:V}(hx:¬b∈ex)(hb:Xe.ld σ.h b o n g=some v):Xe.ld σ'.h b o n g=some v:=by have hlt:=h.dw hb;unfold Xe.ld at hb⊢;rw[hf.old b hlt hx];exact hb
def aT.get{ex:List Nat}{σ σ':St}(h:WF σ)(hf:aT ex σ σ'){b:Nat}{k:Bk}(hx:¬b∈ex)(hb:σ.h b=some k):σ'.h b=some k:=by rw[hf.old b (h.lt hb) hx];exact hb
def uK:Nat:=1000
def dK:Nat:=29000000
def eK:Nat:=29002000
def Zk(D k:Nat)(q:Rat):Prop:=∃a:Int,q=(a:Rat)/(D:Rat)/\a.natAbs<=k*(D*256^uK)
def BI(D:Nat):Prop:=0<D/\D<256^dK
def alA{D k u d s a:Nat}(hD:D<256^d)(hk:k<=256^u)(hs:u+d+u<=s)(ha:a<=k*(D*256^u)):a<256^s:=by have h1:(256:Nat)^(u+d+u)<=256^s:=bB jj hs;refine cP ha (aE ?_ h1);rw[dT,dT,fR];exact cP (bo _ hk) (Nat.mul_lt_mul_of_pos_left (eJ hD (df jj)) (df jj))
def Sm.int{k:Nat}{a:Int}(hk:k≠0)(h:a.natAbs<256^k):Sm k (a:Rat):=⟨by show(a:Rat).num.natAbs<_;simp_all,by simp_all⟩
section
variable {D k l:Nat} {p q:Rat}
def BI.ne(h:BI D):(D:Rat)≠0:=by have:=h.1;intro e;simp_all
def Zk.int{a:Int}(hD:BI D)(hk:k<=256^uK)(h:a.natAbs<=k*(D*256^uK)):Sm eK (a:Rat):=Sm.int jj (alA hD.2 hk jj h)
def Zk.sz(h:Zk D k q)(hD:BI D)(hk:k<=256^uK):Sz q:=by obtain⟨a,rfl,h2⟩:=h;have h3:Sm dK ((D:Int):Rat):=Sm.int jj hD.2;exact((Zk.int hD hk h2).div h3 hD.ne).mono jj
def Zk.atX(h:Zk D k p)(h':Zk D l q)(hD:BI D)(hk:k<=256^uK)(hl:l<=256^uK)(h0:q≠0):Sz (p/q):=by
 obtain⟨a,rfl,h2⟩:=h;obtain⟨b,rfl,h3⟩:=h';have hb:(b:Rat)≠0:=λe=>h0 kd;have e:(a:Rat)/(D:Rat)/((b:Rat)/(D:Rat))=(a:Rat)/(b:Rat):=by grind
 rw[e];exact((Zk.int hD hk h2).div (Zk.int hD hl h3) hb).mono jj
def Zk.mono(h:Zk D k q)(hkl:k<=l):Zk D l q:=by obtain⟨a,e,h2⟩:=h;exact⟨a,e,av h2 (bo _ hkl)⟩
theorem Zk.add(h:Zk D k p)(h':Zk D l q):Zk D (k+l) (p+q):=by
 obtain⟨a,rfl,h2⟩:=h;obtain⟨b,rfl,h3⟩:=h';refine⟨a+b,?_,?_⟩
 .rw[Rat.intCast_add];grind
 .rw[gR];omega
def Zk.neg(h:Zk D k p):Zk D k (-p):=by obtain⟨a,rfl,h2⟩:=h;refine⟨-a,?_,jb⟩;grind
def Zk.sub(h:Zk D k p)(h':Zk D l q):Zk D (k+l) (p-q):=by rw[iA];exact h.add h'.neg
theorem Zk.zero:Zk D k 0:=⟨0,by grind,by simp⟩
end
def hdel(h:Tr Bk)(b:Nat):Tr Bk:=h.set b none
theorem TF(h:Tr Bk)(b j:Nat):hdel h b j=if j=b then none else h j:=Tr.tJ h b none j
theorem fM(h:Tr Bk)(b j:Nat)(e:j≠b):hdel h b j=h j:=by grind[TF]
def aqs(h:Tr Bk)(b j o n:Nat)(g:Bool)(e:j≠b):ld (hdel h b) j o n g=ld h j o n g:=by grind[ld,fM]
def agX(o:Option (V×St))(K:V->St->Prop):Prop:=match o with|some (v,σ)=>K v σ|none=>False
@[congr] theorem aqt {o o' : Option (V×St)} {K:V→St→Prop} (h:o=o'):agX o K=agX o' K:=by rw [h]
def adP(v:V)(σ:St)(K:V->St->Prop):agX (some (v,σ)) K=K v σ:=rfl
def adQ(ty fZ bytes:Nat)(s x:V)(σ:St):Option (V×St):=
 match x with
 |.c .aV=>qp ty fZ bytes s 0 [] σ
 |.c (.sl b o m _)=>bif Nat.beq m 0 then qp ty fZ bytes s 0 [] σ else match σ.h b with
  |some k=>bif k.rd&&(Nat.beq ((k.cells.drop o).take (m*fZ)).length (m*fZ)&&((k.cells.drop o).take (m*fZ)).all B.kn)then qp ty fZ bytes s m ((k.cells.drop o).take (m*fZ)) σ else none
  |none=>none
 |_=>none
def atY(E:Env)(tm:Tr V)(σ:St)(K:V->St->Prop)(ty fZ bytes:Nat)(s x:O):wpOp E (.app ty fZ bytes s x) tm σ K=agX (adQ ty fZ bytes (s.ev tm) (x.ev tm) σ) K:=by rfl
def adR(ty fZ bytes:Nat)(s:V)(σ:St):adQ ty fZ bytes s (.c .aV) σ=qp ty fZ bytes s 0 [] σ:=rfl
def agY(ty fZ bytes:Nat)(s:V)(b o:Nat)(c:Cap)(σ:St):adQ ty fZ bytes s (.c (.sl b o 0 c)) σ=qp ty fZ bytes s 0 [] σ:=rfl
def abl(ty fZ bytes:Nat)(s:V)(b o m:Nat)(c:Cap)(σ:St)(hm:0<m):adQ ty fZ bytes s (.c (.sl b o m c)) σ=match σ.h b with
  |some k=>bif k.rd&&(Nat.beq ((k.cells.drop o).take (m*fZ)).length (m*fZ)&&((k.cells.drop o).take (m*fZ)).all B.kn)then qp ty fZ bytes s m ((k.cells.drop o).take (m*fZ)) σ else none
  |none=>none:=by
 grind[adQ,Ns]
variable {ty fZ bytes n m:Nat} {news:List B} {h:Tr Bk} {nx b:Nat}
def Qy(h1:0<m)(h2:0<fZ)(h3:m*bytes<=140737488355328)(h4:m<=1073741824):qp ty fZ bytes (.c .aV) m news ⟨h,nx⟩=some (.c (.sl nx 0 m .opn),⟨hset h nx ⟨news,some (fZ,ty)⟩,nx+1⟩):=by grind[qp,Ns,Fa,uo,jH]
def apK(ty fZ bytes n m:Nat)(news:List B)(b:Nat)(h:Tr Bk)(nx:Nat)(k:Option Bk):Option (V×St):=match k with
 |some ⟨cells,some (e,t)⟩=>bif Nat.blt 0 e&&Nat.beq 0 0&&(Nat.beq e fZ&&(Nat.beq t ty&&(Nat.ble ((n+m)*bytes) 140737488355328&&(Nat.ble (n+m) 1073741824&&Nat.ble (n*fZ) cells.length))))then
   some (.c (.sl nx 0 (n+m) .opn),⟨hset (hdel h b) nx ⟨cells.take (n*fZ)++news,some (fZ,ty)⟩,nx+1⟩)else none
 |_=>none
def agZ(h1:0<m):qp ty fZ bytes (.c (.sl b 0 n .opn)) m news ⟨h,nx⟩=apK ty fZ bytes n m news b h nx (h b):=by
 unfold qp apK;dsimp only;rw[Ns (by omega:m≠0)];simp only[fh];split
 .next cells e t hk=>
  rw[hk];dsimp only;cases(Nat.blt 0 e&&Nat.beq 0 0&&(Nat.beq e fZ&&(Nat.beq t ty&&(Nat.ble ((n+m)*bytes) 140737488355328&&(Nat.ble (n+m) 1073741824&&Nat.ble (n*fZ) cells.length)))))with
  |false=>rfl
  |true=>
   simp only[cj,Tr.put,jH,ql]
   rfl
 simp
def WA{cells:List B}(h2:0<fZ)(h3:(n+m)*bytes<=140737488355328)(h4:n+m<=1073741824)(h5:n*fZ<=cells.length):apK ty fZ bytes n m news b h nx (some ⟨cells,some (fZ,ty)⟩)=some (.c (.sl nx 0 (n+m) .opn),⟨hset (hdel h b) nx ⟨cells.take (n*fZ)++news,some (fZ,ty)⟩,nx+1⟩):=by simp_all[apK,Fa,uo]
def adS(b o n:Nat)(σ:St):qp ty fZ bytes (.c (.sl b o n (.ex n))) 0 news σ=some (.c (.sl b o n (.ex n)),σ):=by simp_all[qp,uo]
def ag0(b o n:Nat)(σ:St):qp ty fZ bytes (.c (.sl b o n .any)) 0 news σ=some (.c (.sl b o n .any),σ):=rfl
def Ny(σ:St)(h1:0<m)(h2:0<fZ)(h3:m*bytes<=140737488355328)(h4:m<=1073741824):qp ty fZ bytes (.c .aV) m news σ=some (.c (.sl σ.aj 0 m .opn),⟨hset σ.h σ.aj ⟨news,some (fZ,ty)⟩,σ.aj+1⟩):=Qy h1 h2 h3 h4
def Zt(σ:St):qp ty fZ bytes (.c .aV) 0 news σ=some (.c .aV,σ):=rfl
def Qz(σ:St)(h1:0<m):qp ty fZ bytes (.c (.sl b 0 n .opn)) m news σ=apK ty fZ bytes n m news b σ.h σ.aj (σ.h b):=agZ h1
def Zu{σ:St}(hb:σ.h b=some ⟨[],none⟩)(h1:0<m)(h2:0<fZ)(h3:m*bytes<=140737488355328)(h4:m<=1073741824):qp ty fZ bytes (.c (.sl b 0 0 (.ex 0))) m news σ=some (.c (.sl σ.aj 0 m .opn),⟨hset σ.h σ.aj ⟨news,some (fZ,ty)⟩,σ.aj+1⟩):=by unfold qp;dsimp only;rw[Ns (by omega:m≠0),hb];simp only[fh,Bk.rd,iz,cF,dC,Fa h2,cN,Fa h1,uo h3,uo h4,List.length_nil,cW,cj,jH,ql,gp,List.nil_append,Bool.true_and,cB];rfl
def Fr.nC{σ:St}{h:Tr Bk}{n b:Nat}(hf:Fr σ ⟨h,n⟩)(h1:σ.aj<=b):Fr σ ⟨hdel h b,n⟩:=
 ⟨hf.le,λj hj=>by
  show hdel h b j=none;rw[TF];split
  .rfl
  .exact hf.wf j hj,λj hj=>by
  show hdel h b j=_;rw[fM _ _ _ jb];exact hf.old j hj⟩
def aT.nC{ex:List Nat}{σ:St}{h:Tr Bk}{n b:Nat}(hf:aT ex σ ⟨h,n⟩)(h1:σ.aj<=b\/b∈ex):aT ex σ ⟨hdel h b,n⟩:=
 ⟨hf.le,λj hj=>by
  show hdel h b j=none;rw[TF];split
  .rfl
  .exact hf.wf j hj,λj hj hx=>by
  show hdel h b j=_;rw[fM _ _ _ (λe=>by grind)];exact hf.old j hj hx⟩
def aU:Nat->Nat->B
 |0,_=>.aV
 |n+1,b=>.sl b 0 (n+1) .opn
def kK:Nat->Tr Bk->Nat->Tr Bk
 |0,h,_=>h
 |_+1,h,b=>hdel h b
def xU:Nat->Tr Bk->Nat->Option Bk
 |0,_,_=>none
 |_+1,h,b=>h b
def gF(n:Nat)(G:Nat->List B)(e ty:Nat):Option Bk:=match n with
 |0=>none
 |n+1=>some ⟨bD (n+1) G,some (e,ty)⟩
def LG(G:Nat->List B)(e:Nat):Prop:=∀j,(G j).length=e
def apF(ty fZ bytes n m:Nat)(news:List B)(b:Nat)(h:Tr Bk)(nx:Nat)(k:Option Bk):Option (V×St):=match n with
 |0=>qp ty fZ bytes (.c .aV) m news ⟨h,nx⟩
 |n+1=>apK ty fZ bytes (n+1) m news b h nx k
theorem KH(n b:Nat):(aU n b).kn=true:=by cases n<;>rfl
def WB(n b:Nat):lenV (.c (aU n b))=some (.c (.int .i64 (.ofNat n))):=by cases n<;>rfl
theorem gU(n:Nat)(h:Tr Bk)(b j:Nat)(e:n=0\/j≠b):kK n h b j=h j:=by
 cases n with
 |zero=>rfl
 |succ n=>exact fM _ _ _ jb
def alB(k:Nat)(h:Tr Bk)(b j o n:Nat)(g:Bool)(e:k=0\/j≠b):ld (kK k h b) j o n g=ld h j o n g:=by grind[ld,gU]
theorem vU{n:Nat}{h h':Tr Bk}{b:Nat}(e:n=0\/h' b=h b):xU n h' b=xU n h b:=by
 cases n with
 |zero=>rfl
 |succ n=>exact e.resolve_left jb
def ag1(n:Nat)(h:Tr Bk)(j b:Nat)(k:Bk)(e:n=0\/b≠j):xU n (hset h j k) b=xU n h b:=vU (by grind[ak])
def ag2(σ:St)(h1:0<m):qp ty fZ bytes (.c (aU n b)) m news σ=apF ty fZ bytes n m news b σ.h σ.aj (xU n σ.h b):=by
 cases n with
 |zero=>rfl
 |succ n=>exact Qz σ h1
def aqu{G:Nat->List B}(h1:0<m)(h2:0<fZ)(h3:(n+m)*bytes<=140737488355328)(h4:n+m<=1073741824)(hG:LG G fZ):apF ty fZ bytes n m news b h nx (gF n G fZ ty)=some (.c (.sl nx 0 (n+m) .opn),⟨hset (kK n h b) nx ⟨bD n G++news,some (fZ,ty)⟩,nx+1⟩):=by
 cases n with
 |zero=>
  rw[cN]at h3 h4⊢
  exact Qy h1 h2 h3 h4
 |succ n=>
  show apK ty fZ bytes (n+1) m news b h nx (some ⟨bD (n+1) G,some (fZ,ty)⟩)=_
  rw[WA h2 h3 h4 (by rw[oH hG];omega),<-oH (n:=n+1) hG,ck]
  rfl
def Fr.kK{σ:St}{h:Tr Bk}{n b k:Nat}(hf:Fr σ ⟨h,n⟩)(h1:k=0\/σ.aj<=b):Fr σ ⟨Xe.kK k h b,n⟩:=by
 cases k with
 |zero=>exact hf
 |succ k=>exact Fr.nC hf jb
def aT.kK{ex:List Nat}{σ:St}{h:Tr Bk}{n b k:Nat}(hf:aT ex σ ⟨h,n⟩)(h1:σ.aj<=b\/b∈ex):aT ex σ ⟨Xe.kK k h b,n⟩:=by
 cases k with
 |zero=>exact hf
 |succ k=>exact aT.nC hf h1
attribute [go_sem] KH WB gU alB ag1 ag2 aqu
def Fr.up{σ σ':St}{n:Nat}(hf:Fr σ σ')(hn:σ'.aj<=n):Fr σ ⟨σ'.h,n⟩:=⟨av hf.le hn,λb hb=>hf.wf b (av hn hb),hf.old⟩
def Fr.nV{σ:St}{h:Tr Bk}{n n':Nat}{k:Bk}(hf:Fr σ ⟨h,n⟩)(hn:n<n'):Fr σ ⟨hset h n k,n'⟩:=Fr.up (Fr.new1 hf) hn
theorem fr{σ σ':St}(h:Fr σ σ':=by repeat(first|assumption|exact Fr.refl (by assumption)|exact Fr.up (by assumption) kf|exact Fr.up (Fr.refl (by assumption)) kf|refine Fr.set1 ?_ kf kf|refine Fr.kK ?_ kf|refine Fr.nC ?_ kf|refine Fr.nV ?_ kf)):Fr σ σ':=h
def aT.up{ex:List Nat}{σ σ':St}{n:Nat}(hf:aT ex σ σ')(hn:σ'.aj<=n):aT ex σ ⟨σ'.h,n⟩:=⟨av hf.le hn,λb hb=>hf.wf b (av hn hb),hf.old⟩
def aT.nV{ex:List Nat}{σ:St}{h:Tr Bk}{n n':Nat}{k:Bk}(hf:aT ex σ ⟨h,n⟩)(hn:n<n'):aT ex σ ⟨hset h n k,n'⟩:=aT.up (aT.new1 hf) hn
def aC.st{E:Env}{f:Nat}{args:List V}{σ:St}{K:V->St->Prop}(P:St->Prop)(h:P σ)(h2:P σ->aC E f args σ K):aC E f args σ K:=h2 h
def bH.st{E:Env}{c:AC}{tm:Tr V}{σ:St}{Q:AX->Tr V->St->Prop}(P:St->Prop)(h:P σ)(h2:P σ->bH E c tm σ Q):bH E c tm σ Q:=h2 h
theorem QA{e:Nat}{l:List B}:∀{n:Nat}{o:Nat}{G:Nat->List B},(∀i,i<n->zk l (o+i*e) e true=some (.agg (G i)))->(l.drop o).take (n*e)=bD n G/\(bD n G).length=n*e/\(bD n G).all B.kn=true
 |0,o,G,_=>by rw[iz,cF];exact⟨rfl,rfl,rfl⟩
 |n+1,o,G,h=>by
  have h0:=h 0 jb;rw[iz,cB]at h0;unfold zk at h0;dsimp only at h0;cases hx:(Nat.beq ((l.drop o).take e).length e&&((l.drop o).take e).all B.kn)with
  |false=>grind
  |true=>
   rw[hx]at h0
   have e0:(l.drop o).take e=G 0:=by grind
   rw[af]at hx
   have hl:=ap hx.1
   obtain⟨h1,h2,h3⟩:=QA (o:=o+e) (n:=n) (G:=λi=>G (i+1)) λi hi=>by have:=h (i+1) jb;rw[cA,ff (i*e),<-Nat.add_assoc]at this;exact this
   refine⟨?_,?_,?_⟩
   .unfold bD
    rw[<-e0,<-h1,<-List.drop_drop,cA,ff (n*e),List.take_add]
   .unfold bD
    rw[az,h2,<-e0,hl,cA,ff]
   .unfold bD
    rw[List.all_append,h3,<-e0,hx.2];rfl
def Ja{h:Tr Bk}{e b o n:Nat}{G:Nat->List B}(hn:0<n)(hl:∀i,i<n->ld h b (o+i*e) e true=some (.agg (G i))):∃k,h b=some k/\k.rd=true/\(k.cells.drop o).take (n*e)=bD n G/\(bD n G).length=n*e/\(bD n G).all B.kn=true:=by grind[Go.Proofs.Xe.ld,Go.Proofs.Xe.QA]
def adT(n:Nat)(f:Nat->Rat):(bZ n f).take (n*3)=bZ n f:=by grind[Nv]
def adU(n:Nat)(g:Nat->B):(ones n g).take (n*1)=ones n g:=by grind[Nw]
def ag3(n:Nat)(f:Nat->Rat):n*3<=(bZ n f).length:=by grind[Nv]
def alC(h1:0<m)(h2:0<fZ)(h3:m*bytes<=140737488355328)(h4:m<=1073741824):qp ty fZ bytes (.c (.sl b 0 0 (.ex 0))) m news ⟨hset h b ⟨[],none⟩,nx⟩=some (.c (.sl nx 0 m .opn),⟨hset (hset h b ⟨[],none⟩) nx ⟨news,some (fZ,ty)⟩,nx+1⟩):=Zu (aA _ _ _) h1 h2 h3 h4
def Zv:∀{n:Nat}{G:Nat->List B},(∀j,(G j).all B.kn=true)->(bD n G).all B.kn=true
 |0,_,_=>rfl
 |n+1,G,h=>by unfold bD;rw[List.all_append,h 0,Zv λj=>h (j+1)];rfl
def alD(n:Nat)(f:Nat->Rat):(bZ n f).all B.kn=true:=Zv λ_=>rfl
def atZ:((Int.ofNat 1:Int):Rat)=1:=rfl
def at1:((Int.ofNat 0:Int):Rat)=0:=rfl
attribute [go_sem] alC alD Bool.not_true Bool.not_false atZ at1 fM aqs adP atY adR abl agY ag0 Ny Zt Qz WA adS adT adU Nv Nw adO
end Go.Proofs.Xe
namespace Go.Proofs.Xe
open Go.RowKit Go.Proofs.Ins
def Nz(k:IntKind)(v:V):Option V:=match v with|.c (.int _ n)=>bif IQ k n then some (.c (.int k n))else some (.c (.int k (k.wrap n)))|_=>none
def aqv(E:Env)(tm:Tr V)(σ:St)(K:V->St->Prop)(k:IntKind)(x:O):wpOp E (.conv k x) tm σ K=Gf (Nz k (x.ev tm)) λv=>K v σ:=iq _ _ _ _ rfl λ_ _ h=>by cases h
def abm{k j:IntKind}{n:Int}(h:k.wrap n=n):Nz k (.c (.int j n))=some (.c (.int k n)):=by grind[Nz]
def aqw(j:IntKind)(a:Nat)(h:a<=9223372036854775807):Nz .i64 (.c (.int j (.ofNat a)))=some (.c (.int .i64 (.ofNat a))):=abm (by grind[IntKind.wrap_i64])
def aqx(j:IntKind)(a:Nat)(h:a<=18446744073709551615):Nz .u64 (.c (.int j (.ofNat a)))=some (.c (.int .u64 (.ofNat a))):=abm (by grind[IntKind.wrap_u64])
def aqy(j:IntKind)(a:Nat):Nz .u16 (.c (.int j (.ofNat a)))=some (.c (.int .u16 (.ofNat (a%65536)))):=by rfl
theorem CJ(op:BinOp)(k:IntKind)(a b:Int):nJ op (.c (.int k a)) (.c (.int k b))=SQ op k a b:=by unfold nJ;simp
def at6(k:IntKind)(a b:Nat)(h:0<b):nJ .rem (.c (.int k (.ofNat a))) (.c (.int k (.ofNat b)))=some (.c (.int k (.ofNat (a%b)))):=by grind[CJ,SQ,Bo]
def aqz(k:IntKind)(a b:Nat)(h:0<b)(hw:k.wrap (Int.ofNat (a/b))=Int.ofNat (a/b)):nJ .quo (.c (.int k (.ofNat a))) (.c (.int k (.ofNat b)))=some (.c (.int k (.ofNat (a/b)))):=by grind[CJ,SQ,Bo]
def yj(a b m:Nat)(h:a<=m):a/b<=m:=av (fw _ _) h
def adV(a b:Nat)(h:0<b)(h2:a<=65535):nJ .quo (.c (.int .u16 (.ofNat a))) (.c (.int .u16 (.ofNat b)))=some (.c (.int .u16 (.ofNat (a/b)))):=aqz _ _ _ h (by have:=yj a b _ h2;grind[IntKind.wrap_u16])
def alE(k:IntKind)(a b:Nat)(ha:a<2^k.bits)(hb:b<2^k.bits):(BitVec.ofInt k.bits (Int.ofNat a)&&&BitVec.ofInt k.bits (Int.ofNat b)).toNat=a&&&b:=by grind
def adW(a b:Nat)(ha:a<=9223372036854775807)(hb:b<=9223372036854775807):nJ .and (.c (.int .i64 (.ofNat a))) (.c (.int .i64 (.ofNat b)))=some (.c (.int .i64 (.ofNat (a&&&b)))):=by rw[CJ];unfold SQ Bo;dsimp only;rw[alE .i64 a b (by show a<18446744073709551616;omega) (by show b<18446744073709551616;omega),IntKind.wrap_i64];grind[Nat.and_le_left]
def adZ(a b:Nat):nJ .add (.c (.int .u16 (.ofNat a))) (.c (.int .u16 (.ofNat b)))=some (.c (.int .u16 (.ofNat ((a+b)%65536)))):=by rfl
def ad1(a b:Nat):nJ .mul (.c (.int .u16 (.ofNat a))) (.c (.int .u16 (.ofNat b)))=some (.c (.int .u16 (.ofNat (a*b%65536)))):=by rfl
def at7(a b:Nat)(h:a*b<=9223372036854775807):nJ .mul (.c (.int .i64 (.ofNat a))) (.c (.int .i64 (.ofNat b)))=some (.c (.int .i64 (.ofNat (a*b)))):=by show mkI .i64 (Int.ofNat a*Int.ofNat b)=_;rw[show Int.ofNat a*Int.ofNat b=Int.ofNat (a*b)from rfl,Ho h]
def aua(k j:IntKind)(a c:Nat):nJ .shr (.c (.int k (.ofNat a))) (.c (.int j (.ofNat c)))=some (.c (.int k (.ofNat (a/2^min c k.bits)))):=by
 have e:nJ .shr (.c (.int k (.ofNat a))) (.c (.int j (.ofNat c)))=Y2 .shr k (.ofNat a) (.ofNat c):=by
  unfold nJ;dsimp only;by_cases h:k=j
  .subst h;rw[bw rfl];rfl
  grind
 rw[e];unfold Y2;grind
def ag4:IntKind.bits .i64=64:=rfl
def ag5:IntKind.bits .u16=16:=rfl
def ag6:IntKind.bits .u64=64:=rfl
def aqA(k:IntKind)(a b:Int):nJ .eql (.c (.int k a)) (.c (.int k b))=some (.c (.bool (decide (a=b)))):=by rw[CJ];rfl
def aqB(k:IntKind)(a b:Int):nJ .neq (.c (.int k a)) (.c (.int k b))=some (.c (.bool (!decide (a=b)))):=by rw[CJ];rfl
attribute [go_sem] aqv aqw aqx aqy at6 adV adW adZ ad1 at7 aua ag4 ag5 ag6 aqA aqB
end Go.Proofs.Xe
namespace Go.Proofs.Ins
open Go.RowKit
def Own(w:World)(b sz n:Nat)(F:Nat->List Value):Prop:=
 ∃c T,w.heap[b]?=some (.cells c T (0,0))/\c.size=n*sz/\∀i j,i<n->j<sz->c[i*sz+j]?=(F i)[j]?
def aO(F:Nat->List Value)(i:Nat)(x:List Value)(k:Nat):List Value:=if k=i then x else F k
theorem aN(F:Nat->List Value)(i:Nat)(x:List Value):aO F i x i=x:=ab rfl
def lJ.mono{w:World}{base base':Nat}{T:TypeId}{sz:Nat}{v:Value}{n:Nat}{F:Nat->List Value}(h:lJ w base T sz v n F)(hb:base'<=base):lJ w base' T sz v n F:=by
 obtain⟨⟨h1,h2⟩,h3⟩:=h;refine⟨⟨h1,?_⟩,h3⟩;rcases h2 with h2|⟨g,cap,cur,hv,hg,r⟩
 .exact .inl h2
 .exact .inr ⟨g,cap,cur,hv,av hb hg,r⟩
def ix{α:Type}[Inhabited α](l:List α)(i:Nat):α:=l.getD i default
theorem dV{α:Type}[Inhabited α]{l:List α}{i:Nat}(h:i<l.length):ix l i=l[i]:=by grind[ix]
def QB{α:Type}[Inhabited α](l:List α)(x:α)(i:Nat):ix (l++[x]) i=if i<l.length then ix l i else if i=l.length then x else default:=by grind[ix]
theorem lM{α:Type}[Inhabited α]{l:List α}{i:Nat}(h:i<l.length):ix l i∈l:=by grind[dV]
def TG{α:Type}[Inhabited α]{l:List α}{i k:Nat}(h:i<k):ix (l.take k) i=ix l i:=by grind[ix]
theorem bJ{α:Type}[Inhabited α]{l:List α}{k:Nat}(h:k<l.length):l.take (k+1)=l.take k++[ix l k]:=by grind[dV,List.take_add_one]
structure C5 where
 h:Int
 r:Int
 a:R3
instance:Inhabited C5:=⟨⟨0,0,default⟩⟩
def C5.c(x:C5):List Value:=[.int .i64 x.h,.int .i64 x.r,.bool x.a.n,.string x.a.s,.string x.a.d]
structure Am where
 k:Int
 b:Bool
 a:R3
instance:Inhabited Am:=⟨⟨0,false,default⟩⟩
def Am.c(x:Am):List Value:=[.int .i64 x.k,.bool x.b,.bool x.a.n,.string x.a.s,.string x.a.d]
structure Lg where
 e:Int
 k:Int
instance:Inhabited Lg:=⟨⟨0,0⟩⟩
def Lg.c(x:Lg):List Value:=[.int .i64 x.e,.int .i64 x.k]
abbrev J7:=List Am
abbrev gZ:=List J7
structure wF where
 m:R3
 c:List C5
 a:List gZ
instance:Inhabited wF:=⟨⟨default,[],[]⟩⟩
structure uH where
 w:R3
 l:List Lg
instance:Inhabited uH:=⟨⟨default,[]⟩⟩
structure gW where
 e:List wF
 d:List uH
instance:Inhabited gW:=⟨⟨[],[]⟩⟩
def Sl(w:World)(p:Nat->Prop)(sz:Nat)(v:Value)(n:Nat)(G:Nat->List Value):Prop:=
 ∃a cap,v=.slice a n cap/\n<=cap/\cap<=9223372036854775807/\(n=0\/∃b off,a=some ⟨b,off,none⟩/\p b/\b<w.heap.size/\Fz w b off sz n G)/\∀i,i<n->(G i).length=sz
theorem Sl.nil(w:World)(p:Nat->Prop)(sz:Nat)(G:Nat->List Value):Sl w p sz (.slice none 0 0) 0 G:=⟨none,0,rfl,jp,jb,.inl rfl,λi hi=>jb⟩
def Sl.mono{w:World}{p q:Nat->Prop}{sz:Nat}{v:Value}{n:Nat}{G:Nat->List Value}(h:Sl w p sz v n G)(hp:∀b,p b->q b):Sl w q sz v n G:=by obtain⟨a,cap,hv,h1,h2,h3,h4⟩:=h;refine⟨a,cap,hv,h1,h2,?_,h4⟩;grind
def Sl.keep{w w':World}{p:Nat->Prop}{sz:Nat}{v:Value}{n:Nat}{G:Nat->List Value}(h:Sl w p sz v n G)(hb:∀b,p b->b<w.heap.size->w'.heap[b]?=w.heap[b]?):Sl w' p sz v n G:=by
 obtain⟨a,cap,hv,h1,h2,h3,h4⟩:=h;refine⟨a,cap,hv,h1,h2,?_,h4⟩;rcases h3 with h3|⟨b,off,ha,hpb,hl,r⟩
 .omega
 .have e:=hb b hpb hl;refine .inr ⟨b,off,ha,hpb,?_,λi j hi hj=>?_⟩
  .grind
  .rw[World.cell?_of_block (w:=w) (a:=⟨b,off+i*sz+j,none⟩) e];exact r i j hi hj
def Sl.congr{w:World}{p:Nat->Prop}{sz:Nat}{v:Value}{n:Nat}{G G':Nat->List Value}(h:Sl w p sz v n G)(hg:∀i,i<n->G i=G' i):Sl w p sz v n G':=by
 obtain⟨a,cap,hv,h1,h2,h3,h4⟩:=h;refine⟨a,cap,hv,h1,h2,?_,λi hi=>by grind⟩;rcases h3 with h3|⟨b,off,ha,hpb,hl,r⟩
 .omega
 .exact .inr ⟨b,off,ha,hpb,hl,λi j hi hj=>by rw[<-hg i hi];exact r i j hi hj⟩
def RL{α:Type}[Inhabited α](w:World)(p:Nat->Prop)(sz:Nat)(Q:List Value->α->Prop)(v:Value)(l:List α):Prop:=
 ∃G,Sl w p sz v l.length G/\∀i,i<l.length->Q (G i) (ix l i)
theorem RL.imp{α:Type}[Inhabited α]{w w':World}{p q:Nat->Prop}{sz:Nat}{Q Q':List Value->α->Prop}{v:Value}{l:List α}(h:RL w p sz Q v l)(hp:∀b,p b->q b)
  (hb:∀b,p b->b<w.heap.size->w'.heap[b]?=w.heap[b]?) (hQ:∀c x,Q c x->Q' c x):RL w' q sz Q' v l:=by
 obtain⟨G,h1,h2⟩:=h
 exact⟨G,(h1.keep hb).mono hp,λi hi=>hQ _ _ (h2 i hi)⟩
def QV{α:Type}(c:α->List Value)(cs:List Value)(x:α):Prop:=cs=c x
def RL.plain{α:Type}[Inhabited α]{w:World}{p:Nat->Prop}{sz:Nat}{c:α->List Value}{v:Value}{l:List α}(h:RL w p sz (QV c) v l):Sl w p sz v l.length (λi=>c (ix l i)):=by obtain⟨G,h1,h2⟩:=h;exact h1.congr h2
def CO(w:World)(p:Nat->Prop)(v:Value)(l:List Am):Prop:=RL w p 5 (QV Am.c) v l
def abn(w:World)(p:Nat->Prop)(cs:List Value)(t:J7):Prop:=∃v,cs=[v]/\CO w p v t
def wV(w:World)(p:Nat->Prop)(v:Value)(l:gZ):Prop:=RL w p 1 (abn w p) v l
structure Keeps(p:Nat->Prop)(w w':World):Prop where
 block:∀b,p b->b<w.heap.size->w'.heap[b]?=w.heap[b]?
def Keeps.of_below{p:Nat->Prop}{w w':World}(h:Below w.heap.size w w'):Keeps p w w':=⟨λb _ hb=>h.block b hb⟩
section
variable {w w' : World} {p q:Nat→Prop} {v:Value} {cs:List Value}
def CO.keep{l:List Am}(h:CO w p v l)(k:Keeps p w w')(hp:∀b,p b->q b):CO w' q v l:=RL.imp h hp k.block λ_ _ h=>h
def abn.keep{t:J7}(h:abn w p cs t)(k:Keeps p w w')(hp:∀b,p b->q b):abn w' q cs t:=by obtain⟨v,e,h⟩:=h;exact⟨v,e,h.keep k hp⟩
def wV.keep{l:gZ}(h:wV w p v l)(k:Keeps p w w')(hp:∀b,p b->q b):wV w' q v l:=RL.imp h hp k.block λ_ _ h=>h.keep k hp
def CO.on{l:List Am}(h:CO w p v l)(k:Below w.heap.size w w'):CO w' p v l:=h.keep (.of_below k) λ_ h=>h
def wV.on{l:gZ}(h:wV w p v l)(k:Below w.heap.size w w'):wV w' p v l:=h.keep (.of_below k) λ_ h=>h
end
def Sl.get{w:World}{p:Nat->Prop}{sz:Nat}{a:Option Addr}{n cap:Nat}{G:Nat->List Value}(h:Sl w p sz (.slice a n cap) n G)(hn:0<n):
  ∃b off,a=some ⟨b,off,none⟩/\p b/\b<w.heap.size/\Fz w b off sz n G:=by
 obtain⟨a',cap',hv,h1,h2,h3,h4⟩:=h
 grind
def Sl.form{w:World}{p:Nat->Prop}{sz:Nat}{v:Value}{n:Nat}{G:Nat->List Value}(h:Sl w p sz v n G):∃a cap,v=.slice a n cap/\n<=cap/\cap<=9223372036854775807:=by obtain⟨a,cap,hv,h1,h2,_⟩:=h;grind
def lJ.sl{w:World}{base:Nat}{T:TypeId}{sz:Nat}{v:Value}{n:Nat}{F:Nat->List Value}(h:lJ w base T sz v n F):Sl w (λb=>base<=b) sz v n F:=by
 rcases h.form with⟨rfl,rfl⟩|⟨g,cap,rfl,hb,hn,hm,hl,hr⟩
 .grind[Sl.nil]
 .exact⟨_,cap,rfl,hn,hm,.inr ⟨g,0,rfl,hb,hl,hr⟩,h.2⟩
def Sl.cellAt{w w':World}{p:Nat->Prop}{sz n:Nat}{a:Option Addr}{cap:Nat}{G:Nat->List Value}(h:Sl w p sz (.slice a n cap) n G){b off:Nat}(ha:a=some ⟨b,off,none⟩)(k:Below w.heap.size w w'){i j:Nat}(hi:i<n)(hj:j<sz):
  w'.cell? ⟨b,off+i*sz+j,none⟩=(G i)[j]?:=by
 obtain⟨b',off',ha',-,hl,hr⟩:=h.get jb
 rw[ha]at ha'
 simp only[be,Addr.mk.injEq,and_true]at ha'
 obtain⟨rfl,rfl⟩:=ha'
 exact(hr.below k hl) i j hi hj
end Go.Proofs.Ins
namespace Go.Proofs.Xe
open Go.RowKit Go.Proofs.Ins
def yP(N:Nat):Value->B
 |.int k n=>.int k n
 |.bool b=>.bool b
 |.string s=>.str s
 |.pointer (some a)=>if a.spot=none/\a.block<N then .ptr a.block a.off else .any
 |.pointer none=>.SL
 |.slice (some a) n K=>if K<=9223372036854775807 then(if a.spot=none/\a.block<N/\n<=K then .sl a.block a.off n .any else if n=0 then .sl 0 0 0 .any else .any)else .any
 |.slice none 0 0=>.aV
 |_=>.any
def Ph.id(N:Nat):Ph:=λb=>if b<N then some (b,0)else none
theorem Hq(N:Nat)(v:Value)(h:(yP N v).kn=true):RB (Ph.id N) (yP N v) v:=by
 unfold yP at h⊢;split at h<;>try rfl
 .next a=>
  split at h
  .next hc=>
   rw[ab hc];obtain⟨b,o,s⟩:=a;obtain⟨h1,h2⟩:=hc;dsimp only at h1 h2;subst h1;exact⟨(b,0),ab h2,rfl⟩
  .cases h
 .next a n K=>
  split at h
  .next hK=>
   rw[ab hK];split at h
   .next hc=>
    rw[ab hc];obtain⟨b,o,s⟩:=a;obtain⟨h1,h2,h3⟩:=hc;dsimp only at h1 h2;subst h1;exact .inl ⟨(b,0),K,ab h2,rfl,h3,hK,trivial⟩
   .next hc=>
    rw[ae hc];split at h
    .next h0=>
     subst h0;rw[ab rfl];exact .inr ⟨rfl,rfl,a,K,rfl,hK⟩
    .cases h
  .cases h
 .cases h
def St.of(w:World):St:=⟨.fn λb=>match w.heap[b]? with|some (.cells cs _ _)=>some ⟨cs.toList.map (yP w.heap.size),some (0,1)⟩|_=>none,w.heap.size⟩
def WF.of(w:World):WF (St.of w):=λb hb=>by have hb:w.heap.size<=b:=hb;show(match w.heap[b]? with|some (.cells cs _ _)=>some _|_=>none)=none;grind
def Rel.of(w:World):Rel w.heap.size w (Ph.id w.heap.size) (St.of w) w where
 n0:=jp
 bel:=Below.refl _ _
 inj:=λb b' p p' h1 _ _ hN _ _=>by grind[Ph.id]
 lo:=λb p h=>by grind[Ph.id]
 fz:=λb k p hk _ _=>by
  have hk:(match w.heap[b]? with|some (.cells cs _ _)=>some (⟨cs.toList.map (yP w.heap.size),some (0,1)⟩:Bk)|_=>none)=some k:=hk;split at hk
  .cases hk;exact⟨rfl,rfl⟩
  grind
 blk:=λb k p hk hp=>by
  have hp':p.1=b/\b<w.heap.size:=by grind[Ph.id]
  have hk:(match w.heap[b]? with|some (.cells cs _ _)=>some (⟨cs.toList.map (yP w.heap.size),some (0,1)⟩:Bk)|_=>none)=some k:=hk;split at hk
  .next cs T z hcs=>
   cases hk;refine .inr (.inr ⟨rfl,rfl,λj x hj hx=>?_⟩);grind[Go.Proofs.Xe.Hq,Go.World.cell?]
  grind
 aj:=λb hb=>by have hb:w.heap.size<=b:=hb;refine⟨ae jb,?_⟩;show(match w.heap[b]? with|some (.cells cs _ _)=>some _|_=>none)=none;grind
def aub{w:World}{b o n:Nat}{l:List Value}(hn:l.length=n)(h0:0<n)(h:∀j v,l[j]?=some v->w.cell? ⟨b,o+j,none⟩=some v)(hk:∀v∈l,(yP w.heap.size v).kn=true):
  ld (St.of w).h b o n true=some (.agg (l.map (yP w.heap.size))):=by
 have hc:∃cs T z,w.heap[b]?=some (.cells cs T z)/\(cs.toList.drop o).take n=l:=by
  match l,hn with
  |v::l',hn=>
   have h1:=h 0 v rfl
   unfold World.cell? at h1
   dsimp only at h1
   split at h1
   .next cs T z e=>
    refine⟨cs,T,z,e,?_⟩
    apply List.ext_getElem?
    grind[Go.World.cell?]
   grind
  |[],hn=>simp at hn;omega
 obtain⟨cs,T,z,e,hl⟩:=hc
 have hg:(St.of w).h b=some ⟨cs.toList.map (yP w.heap.size),some (0,1)⟩:=by show(match w.heap[b]? with|some (.cells cs _ _)=>some (⟨cs.toList.map (yP w.heap.size),some (0,1)⟩:Bk)|_=>none)=_;rw[e]
 unfold ld
 rw[hg]
 show(bif true then _ else _)=_
 grind[zk,List.map_drop,List.map_take,Wp]
def abo(N:Nat)(a:Addr)(n K:Nat):yP N (.slice (some a) n K)=if K<=9223372036854775807 then(if a.spot=none/\a.block<N/\n<=K then .sl a.block a.off n .any else if n=0 then .sl 0 0 0 .any else .any)else .any:=rfl
def HL.of{w:World}{a:Option Addr}{n cap e:Nat}{F:Nat->List Value}(h:acZ w a n e F)(hf:(a=none/\n=0/\cap=0)\/∃x,a=some x)(hn:n<=cap)(hc:cap<=9223372036854775807)(he:0<e)(hF:∀i,i<n->(F i).length=e)(hk:∀i,i<n->∀v∈F i,(yP w.heap.size v).kn=true):
  HL (St.of w).h e (yP w.heap.size (.slice a n cap)) n λi=>(F i).map (yP w.heap.size):=by
 rcases hf with⟨rfl,rfl,rfl⟩|⟨x,rfl⟩
 .exact .inl ⟨rfl,rfl⟩
 .by_cases h0:n=0
  .subst h0
   rw[abo,ab hc]
   split
   .exact .inr ⟨_,_,_,rfl,λi hi=>jb⟩
   .rw[ab rfl];exact .inr ⟨_,_,_,rfl,λi hi=>jb⟩
  .rcases h with h|⟨b,off,e1,hb,hr⟩
   .omega
   .cases e1
    rw[abo,ab hc,ab ⟨rfl,hb,hn⟩]
    refine .inr ⟨_,_,_,rfl,λi hi=>aub (hF i hi) he (λj v hj=>?_) (hk i hi)⟩
    have hlt:j<e:=by grind
    have:=hr i j hi hlt
    grind
end Go.Proofs.Xe
end
