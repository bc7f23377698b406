import Derived.Test.YtchhojplceoifaaGreatDoorYf11
set_option linter.all false
noncomputable section
namespace Go.Proofs.Xe
open Go.RowKit Go.Proofs.Ins
def bC:Nat->(Nat->List B)->List B
 |0,_=>[]
 |n+1,G=>G 0++bC n λi=>G (i+1)
def X5{e:Nat}:∀{n:Nat}{G:Nat->List B}{i:Nat},(∀j,(G j).length=e)->i<n->∃r,(bC n G).drop (i*e)=G i++r
 |0,_,_,_,h=>jb
 |n+1,G,0,_,_=>⟨bC n λi=>G (i+1),by rw[im];rfl⟩
 |n+1,G,i+1,hG,h=>by obtain⟨r,hr⟩:=X5 (G:=λi=>G (i+1)) (i:=i) (λj=>hG (j+1)) (by omega:i<n);refine⟨r,?_⟩;show(G 0++bC n λi=>G (i+1)).drop _=_;rw[cj,eN,<-hG 0,List.drop_length_add_append,hG 0];exact hr
def Ad{e n i k m:Nat}{G:Nat->List B}(g:Bool)(hG:∀j,(G j).length=e)(h:i<n)(hk:k+m<=e)(hm:0<m):zW (bC n G) (i*e+k) m g=zW (G i) k m g:=by
 obtain⟨r,hr⟩:=X5 hG h;have hd:(bC n G).drop (i*e+k)=(G i).drop k++r:=by rw[<-jt,hr,List.drop_append_of_le_length kd]
 have hl:((G i).drop k).length=e-k:=by grind
 unfold zW;grind
def aiv:∀(p:List B) (l:List B) (o:Nat) (vs:List B),yS (p++l) (p.length+o) vs=match yS l o vs with|some r=>some (p++r)|none=>none
 |[],l,o,vs=>by grind
 |x::p,l,o,vs=>by rw[fu,bL,show p.length+1+o=(p.length+o)+1 by omega,yS,aiv p l o vs];cases yS l o vs<;>rfl
def acQ:∀(p:List B) (l:List B) (o:Nat) (vs:List B),o+vs.length<=p.length->yS (p++l) o vs=match yS p o vs with|some r=>some (r++l)|none=>none
 |p,l,0,vs,h=>by grind[yS,yj]
 |[],l,o+1,vs,h=>by simp at h
 |x::p,l,o+1,vs,h=>by rw[fu,yS,yS,acQ p l o vs (by simp only[bL]at h;omega)];cases yS p o vs<;>rfl
def iR(G:Nat->List B)(i:Nat)(r:List B):Nat->List B:=λj=>if j=i then r else G j
def yt{e k:Nat}{vs:List B}:∀{n i:Nat}{G:Nat->List B},(∀j,(G j).length=e)->i<n->k+vs.length<=e->yS (bC n G) (i*e+k) vs=match yS (G i) k vs with|some r=>some (bC n (iR G i r))|none=>none
 |0,_,_,_,h,_=>jb
 |n+1,0,G,hG,_,hk=>by rw[im,cL];show yS (G 0++_) k vs=_;rw[acQ _ _ _ _ kd];rfl
 |n+1,i+1,G,hG,h,hk=>by
  show yS (G 0++bC n λi=>G (i+1)) _ vs=_;rw[show(i+1)*e+k=(G 0).length+(i*e+k) by rw[hG,cj];omega,aiv,yt (λj=>hG (j+1)) jb hk];cases yS (G (i+1)) k vs with
  |none=>rfl
  |some r=>
   show some _=some _
   congr 1
   show G 0++_=iR G (i+1) r 0++_
   congr 2
   funext j
   unfold iR
   simp only[Nat.add_right_cancel_iff]
theorem bH:∀{n:Nat}{G H:Nat->List B},(∀i,i<n->G i=H i)->bC n G=bC n H
 |0,_,_,_=>rfl
 |n+1,G,H,h=>by unfold bC;rw[h 0 jb,bH λi hi=>h (i+1) jb]
def MF(z:List B):∀n,rep z n=bC n λ_=>z
 |0=>rfl
 |n+1=>by unfold rep bC;rw[MF z n]
theorem jw:∀(n:Nat) (G:Nat->List B) (r:List B),bC n G++r=bC (n+1) (iR G n r)
 |0,G,r=>by grind[bC,iR]
 |n+1,G,r=>by rw[bC,ij,jw n _ r];show _=iR G (n+1) r 0++bC (n+1) _;congr 2;funext j;unfold iR;simp only[Nat.add_right_cancel_iff]
theorem qB{e:Nat}:∀{n:Nat}{G:Nat->List B},(∀j,(G j).length=e)->(bC n G).length=n*e
 |0,_,_=>by simp[bC]
 |n+1,G,h=>by rw[bC,aD,h,qB λj=>h (j+1),cj];omega
def yu{h:Tr Bk}{b o n:Nat}{cs:List B}(e:ld h b o n true=some (.agg cs))(k m:Nat)(g:Bool)(hk:k+m<=n)(hm:0<m):ld h b (o+k) m g=zW cs k m g:=by
 unfold ld at e⊢;cases hb:h b with
 |none=>grind
 |some bk=>
  rw[hb]at e
  dsimp only at e⊢
  cases hr:bk.rd with
  |false=>grind
  |true=>
   rw[hr]at e
   simp only[ck]at e⊢
   unfold zW at e
   dsimp only at e
   cases hx:(Nat.beq ((bk.cells.drop o).take n).length n&&((bk.cells.drop o).take n).all B.kn)with
   |false=>grind
   |true=>
    rw[hx]at e
    cases e
    rw[af]at hx
    have hl:=aw hx.1
    rw[dp]at hl
    unfold zW
    cases g with
    |true=>
     grind[List.drop_take,List.drop_drop]
    |false=>
     dsimp only
     rw[List.drop_take,jt]
     have hd:n-k=(n-k-1)+1:=jb
     grind
def BM{h:Tr Bk}{b o n:Nat}{cs:List B}(e:ld h b o n true=some (.agg cs))(m:Nat)(g:Bool)(hk:m<=n)(hm:0<m):ld h b o m g=zW cs 0 m g:=yu e 0 m g jb hm
def dO(q:Rat):List B:=[.bool (rn q),.str (rs q),.str (rd q)]
def cZ(n:Nat)(f:Nat->Rat):List B:=bC n λi=>dO (f i)
def aN{α:Type}(f:Nat->α)(i:Nat)(q:α):Nat->α:=λj=>if j=i then q else f j
def Vb(n:Nat)(f:Nat->Rat)(i:Nat)(h:i<n):zW (cZ n f) (i*3) 3 true=some (.agg [.bool (rn (f i)),.str (rs (f i)),.str (rd (f i))]):=by unfold cZ;have:=Ad (e:=3) (k:=0) (m:=3) (G:=λi=>dO (f i)) true (λ_=>rfl) h jj jj;rw[cB]at this;rw[this];rfl
def ank(n:Nat)(f:Nat->Rat)(i:Nat)(q:Rat)(h:i<n):yS (cZ n f) (i*3) [.bool (rn q),.str (rs q),.str (rd q)]=some (cZ n (aN f i q)):=by unfold cZ;have:=yt (e:=3) (k:=0) (vs:=dO q) (G:=λi=>dO (f i)) (λ_=>rfl) h (cP 3);rw[cB]at this;show yS _ _ (dO q)=_;rw[this];show some _=some _;congr 2;funext j;unfold iR aN;split<;>rfl
theorem dS{n:Nat}{f g:Nat->Rat}(h:∀i,i<n->f i=g i):cZ n f=cZ n g:=bH λi hi=>by grind
def aiw(n:Nat):rep [.bool (rn 0),.str (rs 0),.str (rd 0)] n=cZ n λ_=>0:=MF _ n
def afk(n:Nat)(f:Nat->Rat)(q:Rat):cZ n f++[.bool (rn q),.str (rs q),.str (rd q)]=cZ (n+1) (aN f n q):=by unfold cZ;rw[show [B.bool (rn q),.str (rs q),.str (rd q)]=dO q from rfl,jw];congr 1;grind[iR,aN]
theorem OM(n:Nat)(f:Nat->Rat):(cZ n f).length=n*3:=qB λ_=>rfl
def ones(n:Nat)(g:Nat->B):List B:=bC n λi=>[g i]
def acR(n:Nat)(g:Nat->B)(i:Nat)(h:i<n):zW (ones n g) (i*1) 1 false=bif (g i).kn then some (.c (g i))else none:=by unfold ones;have:=Ad (e:=1) (k:=0) (m:=1) (G:=λi=>[g i]) false (λ_=>rfl) h jj jj;rw[cB]at this;rw[this];rfl
def anl(n:Nat)(g:Nat->B)(i:Nat)(x:B)(h:i<n):yS (ones n g) (i*1) [x]=some (ones n (aN g i x)):=by unfold ones;have:=yt (e:=1) (k:=0) (vs:=[x]) (G:=λi=>[g i]) (λ_=>rfl) h (cP 1);rw[cB]at this;rw[this];show some _=some _;congr 2;grind[iR,aN]
def cO{n:Nat}{f g:Nat->B}(h:∀i,i<n->f i=g i):ones n f=ones n g:=bH λi hi=>by grind
def aix(x:B)(n:Nat):rep [x] n=ones n λ_=>x:=MF _ n
theorem OO(n:Nat)(g:Nat->B):(ones n g).length=n*1:=qB λ_=>rfl
theorem aK{α:Type}(f:Nat->α)(i:Nat)(q:α):aN f i q i=q:=ae rfl
theorem aS{α:Type}(f:Nat->α)(i j:Nat)(q:α)(h:j≠i):aN f i q j=f j:=ab h
def Vd:Option V->Nat->Option Nat
 |none,d=>some d
 |some v,_=>KQ v
def aiy(b:Option O)(tm:Tr V)(d:Nat):Xm b tm d=Vd (b.map (·.ev tm)) d:=by cases b<;>rfl
def Ve(iC:Nat)(x:V)(lo hi mx:Option V):Option V:=
 match x with
 |.c (.sl b o n c)=>
  match Vd lo 0,Vd hi n with
  |some l,some h=>bif Nat.ble l h&&Nat.ble h n then
    match mx with
    |none=>(match c with
     |.ex k=>bif Nat.blt l k then some (.c (.sl b (o+l*iC) (h-l) (.ex (k-l))))else some (.c (.sl b o 0 .any))
     |.opn=>bif Nat.beq l 0 then some (.c (.sl b o h .opn))else bif Nat.blt l n then some (.c (.sl b (o+l*iC) (h-l) .any))else some (.c (.sl b o 0 .any))
     |.any=>bif Nat.blt l n then some (.c (.sl b (o+l*iC) (h-l) .any))else some (.c (.sl b o 0 .any)))
    |some y=>match KQ y with
     |some q=>bif Nat.ble h q&&Nat.ble q n then bif Nat.beq l 0 then some (.c (.sl b o h (bif Nat.beq n 0 then .any else .ex q)))else none else none
     |none=>none
   else none
  |_,_=>none
 |.c .aP=>match Vd lo 0,Vd hi 0 with
  |some 0,some 0=>(match mx with|none=>some (.c .aP)|some y=>match KQ y with|some 0=>some (.c .aP)|_=>none)
  |_,_=>none
 |_=>none
def X6(iC:Nat)(x:O)(lo hi mx:Option O)(tm:Tr V):Oc iC x lo hi mx tm=Ve iC (x.ev tm) (lo.map (·.ev tm)) (hi.map (·.ev tm)) (mx.map (·.ev tm)):=by unfold Oc Ve;simp only[uw,aiy];cases mx<;>rfl
def anm(E:Env)(tm:Tr V)(σ:St)(K:V->St->Prop)(iC:Nat)(x:O)(lo hi mx:Option O):wpOp E (.slice iC x lo hi mx) tm σ K=H8 (Ve iC (x.ev tm) (lo.map (·.ev tm)) (hi.map (·.ev tm)) (mx.map (·.ev tm))) λv=>K v σ:=by rw[iF _ _ _ _ (by rfl) λ_ _ h=>by cases h];show H8 (Oc iC x lo hi mx tm) _=_;rw[X6]
def ano:B->Prop
 |.sl _ _ n (.ex k)=>n<=k
 |_=>True
def asK{v:B}{n h:Nat}(hc:ano v)(hv:(n=0/\v=.aP)\/∃b o c,v=.sl b o n c/\0<n)(hh:h<=n)(iC:Nat):∃v',Ve iC (.c v) none (some (jN h)) none=some (.c v')/\ano v'/\((n=0/\v'=.aP)\/∃b o c c',v=.sl b o n c/\v'=.sl b o h c'):=by
 rcases hv with⟨rfl,rfl⟩|⟨b,o,c,rfl,hn⟩
 .have:h=0:=jb;subst this;exact⟨.aP,rfl,trivial,.inl ⟨rfl,rfl⟩⟩
 .cases c with
  |ex k=>
   have hc:n<=k:=hc
   refine⟨.sl b o h (.ex k),?_,by show h<=k;omega,.inr ⟨b,o,_,_,rfl,rfl⟩⟩
   grind[Ve,Vd,KQ,yj,IJ]
  |opn=>
   refine⟨.sl b o h .opn,?_,trivial,.inr ⟨b,o,_,_,rfl,rfl⟩⟩
   grind[Ve,Vd,KQ,yj,XY]
  |any=>
   refine⟨.sl b o h .any,?_,trivial,.inr ⟨b,o,_,_,rfl,rfl⟩⟩
   grind[Ve,Vd,KQ,yj,IJ]
attribute [go_sem] anm Option.map_some Option.map_none
attribute [go_sem] Vb ank aiw acR anl aix
structure aU(ex:List Nat)(σ σ':St):Prop where
 le:σ.aj<=σ'.aj
 wf:WF σ'
 old:∀b,b<σ.aj->¬b∈ex->σ'.h b=σ.h b
def Fr.ex{σ σ':St}(h:Fr σ σ')(ex:List Nat):aU ex σ σ':=⟨h.le,h.wf,λb hb _=>h.old b hb⟩
theorem aU.refl{σ:St}{ex:List Nat}(h:WF σ):aU ex σ σ:=(Fr.refl h).ex ex
def aU.trans{ex:List Nat}{σ σ' Ou:St}(h:aU ex σ σ')(h':aU ex σ' Ou):aU ex σ Ou:=⟨ap h.le h'.le,h'.wf,λb hb hx=>(h'.old b (aM hb h.le) hx).trans (h.old b hb hx)⟩
def aU.to{ex:List Nat}{σ0 σ σ':St}(h:Fr σ0 σ)(he:aU ex σ σ')(hx:∀b∈ex,σ0.aj<=b):Fr σ0 σ':=⟨ap h.le he.le,he.wf,λb hb=>(he.old b (aM hb h.le) λhm=>by grind).trans (h.old b hb)⟩
def aU.to'{ex ex':List Nat}{σ0 σ σ':St}(h:aU ex' σ0 σ)(he:aU ex σ σ')(hx:∀b∈ex,σ0.aj<=b\/b∈ex'):aU ex' σ0 σ':=⟨ap h.le he.le,he.wf,λb hb hn=>(he.old b (aM hb h.le) λhm=>by grind).trans (h.old b hb hn)⟩
def aU.new1{ex:List Nat}{σ:St}{h:Tr Bk}{n:Nat}{k:Bk}(hf:aU ex σ ⟨h,n⟩):aU ex σ ⟨hset h n k,n+1⟩:=
 ⟨Nat.le_succ_of_le hf.le,λb hb=>by
  have hb:n+1<=b:=hb;show hset h n k b=none;rw[ak _ _ _ _ jb];exact hf.wf b (show n<=b by omega),λb hb hx=>by
  show hset h n k b=_;have:σ.aj<=n:=hf.le;rw[ak _ _ _ _ jb];exact hf.old b hb hx⟩
def aU.set1{ex:List Nat}{σ:St}{h:Tr Bk}{n b:Nat}{k:Bk}(hf:aU ex σ ⟨h,n⟩)(hb:σ.aj<=b\/b∈ex)(hb2:b<n):aU ex σ ⟨hset h b k,n⟩:=
 ⟨hf.le,λj hj=>by
  have hj:n<=j:=hj;show hset h b k j=none;rw[ak _ _ _ _ jb];exact hf.wf j hj,λj hj hx=>by
  show hset h b k j=_;rw[ak _ _ _ _ (λe=>by grind)];exact hf.old j hj hx⟩
theorem aU.ld{ex:List Nat}{σ σ':St}(h:WF σ)(hf:aU ex σ σ'){b o n:Nat}{g:Bool}{v:V}(hx:¬b∈ex)(hb:Xe.ld σ.h b o n g=some v):Xe.ld σ'.h b o n g=some v:=by have hlt:=h.dA hb;unfold Xe.ld at hb⊢;rw[hf.old b hlt hx];exact hb
def aU.get{ex:List Nat}{σ σ':St}(h:WF σ)(hf:aU ex σ σ'){b:Nat}{k:Bk}(hx:¬b∈ex)(hb:σ.h b=some k):σ'.h b=some k:=by rw[hf.old b (h.lt hb) hx];exact hb
def uK:Nat:=1000
def dK:Nat:=29000000
def eK:Nat:=29002000
def Zk(D k:Nat)(q:Rat):Prop:=∃a:Int,q=(a:Rat)/(D:Rat)/\a.natAbs<=k*(D*256^uK)
def CY(D:Nat):Prop:=0<D/\D<256^dK
def anp{D k u d s a:Nat}(hD:D<256^d)(hk:k<=256^u)(hs:u+d+u<=s)(ha:a<=k*(D*256^u)):a<256^s:=by have h1:(256:Nat)^(u+d+u)<=256^s:=bB jj hs;refine cV ha (aM ?_ h1);rw[eg,eg,fT];exact cV (bp _ hk) (Nat.mul_lt_mul_of_pos_left (eI hD (dq jj)) (dq jj))
def Sm.int{k:Nat}{a:Int}(hk:k≠0)(h:a.natAbs<256^k):Sm k (a:Rat):=⟨by show(a:Rat).num.natAbs<_;simp_all,by simp_all⟩
section
variable {D k l:Nat} {p q:Rat}
def CY.ne(h:CY D):(D:Rat)≠0:=by have:=h.1;intro e;simp_all
def Zk.int{a:Int}(hD:CY D)(hk:k<=256^uK)(h:a.natAbs<=k*(D*256^uK)):Sm eK (a:Rat):=Sm.int jj (anp hD.2 hk jj h)
def Zk.sz(h:Zk D k q)(hD:CY D)(hk:k<=256^uK):Sz q:=by obtain⟨a,rfl,h2⟩:=h;have h3:Sm dK ((D:Int):Rat):=Sm.int jj hD.2;exact((Zk.int hD hk h2).div h3 hD.ne).mono jj
def Zk.awu(h:Zk D k p)(h':Zk D l q)(hD:CY D)(hk:k<=256^uK)(hl:l<=256^uK)(h0:q≠0):Sz (p/q):=by
 obtain⟨a,rfl,h2⟩:=h;obtain⟨b,rfl,h3⟩:=h';have hb:(b:Rat)≠0:=λe=>h0 kd;have e:(a:Rat)/(D:Rat)/((b:Rat)/(D:Rat))=(a:Rat)/(b:Rat):=by grind
 rw[e];exact((Zk.int hD hk h2).div (Zk.int hD hl h3) hb).mono jj
def Zk.mono(h:Zk D k q)(hkl:k<=l):Zk D l q:=by obtain⟨a,e,h2⟩:=h;exact⟨a,e,ap h2 (bp _ hkl)⟩
theorem Zk.add(h:Zk D k p)(h':Zk D l q):Zk D (k+l) (p+q):=by
 obtain⟨a,rfl,h2⟩:=h;obtain⟨b,rfl,h3⟩:=h';refine⟨a+b,?_,?_⟩
 .rw[Rat.intCast_add];grind
 .rw[ib];omega
def Zk.neg(h:Zk D k p):Zk D k (-p):=by obtain⟨a,rfl,h2⟩:=h;refine⟨-a,?_,jb⟩;grind
def Zk.sub(h:Zk D k p)(h':Zk D l q):Zk D (k+l) (p-q):=by rw[gO];exact h.add h'.neg
theorem Zk.zero:Zk D k 0:=⟨0,by grind,by simp⟩
end
def hdel(h:Tr Bk)(b:Nat):Tr Bk:=h.set b none
theorem Vf(h:Tr Bk)(b j:Nat):hdel h b j=if j=b then none else h j:=Tr.vg h b none j
theorem eX(h:Tr Bk)(b j:Nat)(e:j≠b):hdel h b j=h j:=by grind[Vf]
def asL(h:Tr Bk)(b j o n:Nat)(g:Bool)(e:j≠b):ld (hdel h b) j o n g=ld h j o n g:=by grind[ld,eX]
def anq(o:Option (V×St))(K:V->St->Prop):Prop:=match o with|some (v,σ)=>K v σ|none=>False
@[congr] theorem asM {o o' : Option (V×St)} {K:V→St→Prop} (h:o=o'):anq o K=anq o' K:=by rw [h]
def afl(v:V)(σ:St)(K:V->St->Prop):anq (some (v,σ)) K=K v σ:=rfl
def afm(ty iC bytes:Nat)(s x:V)(σ:St):Option (V×St):=
 match x with
 |.c .aP=>uj ty iC bytes s 0 [] σ
 |.c (.sl b o m _)=>bif Nat.beq m 0 then uj ty iC bytes s 0 [] σ else match σ.h b with
  |some k=>bif k.rd&&(Nat.beq ((k.cells.drop o).take (m*iC)).length (m*iC)&&((k.cells.drop o).take (m*iC)).all B.kn)then uj ty iC bytes s m ((k.cells.drop o).take (m*iC)) σ else none
  |none=>none
 |_=>none
def awv(E:Env)(tm:Tr V)(σ:St)(K:V->St->Prop)(ty iC bytes:Nat)(s x:O):wpOp E (.app ty iC bytes s x) tm σ K=anq (afm ty iC bytes (s.ev tm) (x.ev tm) σ) K:=by rfl
def afn(ty iC bytes:Nat)(s:V)(σ:St):afm ty iC bytes s (.c .aP) σ=uj ty iC bytes s 0 [] σ:=rfl
def aiz(ty iC bytes:Nat)(s:V)(b o:Nat)(c:Cap)(σ:St):afm ty iC bytes s (.c (.sl b o 0 c)) σ=uj ty iC bytes s 0 [] σ:=rfl
def acS(ty iC bytes:Nat)(s:V)(b o m:Nat)(c:Cap)(σ:St)(hm:0<m):afm ty iC bytes s (.c (.sl b o m c)) σ=match σ.h b with
  |some k=>bif k.rd&&(Nat.beq ((k.cells.drop o).take (m*iC)).length (m*iC)&&((k.cells.drop o).take (m*iC)).all B.kn)then uj ty iC bytes s m ((k.cells.drop o).take (m*iC)) σ else none
  |none=>none:=by
 grind[afm,S9]
variable {ty iC bytes n m:Nat} {news:List B} {h:Tr Bk} {nx b:Nat}
def Tc(h1:0<m)(h2:0<iC)(h3:m*bytes<=140737488355328)(h4:m<=1073741824):uj ty iC bytes (.c .aP) m news ⟨h,nx⟩=some (.c (.sl nx 0 m .opn),⟨hset h nx ⟨news,some (iC,ty)⟩,nx+1⟩):=by grind[uj,S9,IJ,yj,lV]
def apK(ty iC bytes n m:Nat)(news:List B)(b:Nat)(h:Tr Bk)(nx:Nat)(k:Option Bk):Option (V×St):=match k with
 |some ⟨cells,some (e,t)⟩=>bif Nat.blt 0 e&&Nat.beq 0 0&&(Nat.beq e iC&&(Nat.beq t ty&&(Nat.ble ((n+m)*bytes) 140737488355328&&(Nat.ble (n+m) 1073741824&&Nat.ble (n*iC) cells.length))))then
   some (.c (.sl nx 0 (n+m) .opn),⟨hset (hdel h b) nx ⟨cells.take (n*iC)++news,some (iC,ty)⟩,nx+1⟩)else none
 |_=>none
def aiA(h1:0<m):uj ty iC bytes (.c (.sl b 0 n .opn)) m news ⟨h,nx⟩=apK ty iC bytes n m news b h nx (h b):=by
 unfold uj apK;dsimp only;rw[S9 (by omega:m≠0)];simp only[fq];split
 .next cells e t hk=>
  rw[hk];dsimp only;cases(Nat.blt 0 e&&Nat.beq 0 0&&(Nat.beq e iC&&(Nat.beq t ty&&(Nat.ble ((n+m)*bytes) 140737488355328&&(Nat.ble (n+m) 1073741824&&Nat.ble (n*iC) cells.length)))))with
  |false=>rfl
  |true=>
   simp only[ck,Tr.put,lV,uw]
   rfl
 simp
def X7{cells:List B}(h2:0<iC)(h3:(n+m)*bytes<=140737488355328)(h4:n+m<=1073741824)(h5:n*iC<=cells.length):apK ty iC bytes n m news b h nx (some ⟨cells,some (iC,ty)⟩)=some (.c (.sl nx 0 (n+m) .opn),⟨hset (hdel h b) nx ⟨cells.take (n*iC)++news,some (iC,ty)⟩,nx+1⟩):=by simp_all[apK,IJ,yj]
def afo(b o n:Nat)(σ:St):uj ty iC bytes (.c (.sl b o n (.ex n))) 0 news σ=some (.c (.sl b o n (.ex n)),σ):=by simp_all[uj,yj]
def aiB(b o n:Nat)(σ:St):uj ty iC bytes (.c (.sl b o n .any)) 0 news σ=some (.c (.sl b o n .any),σ):=rfl
def aaY(σ:St)(h1:0<m)(h2:0<iC)(h3:m*bytes<=140737488355328)(h4:m<=1073741824):uj ty iC bytes (.c .aP) m news σ=some (.c (.sl σ.aj 0 m .opn),⟨hset σ.h σ.aj ⟨news,some (iC,ty)⟩,σ.aj+1⟩):=Tc h1 h2 h3 h4
def aaZ(σ:St):uj ty iC bytes (.c .aP) 0 news σ=some (.c .aP,σ):=rfl
def Td(σ:St)(h1:0<m):uj ty iC bytes (.c (.sl b 0 n .opn)) m news σ=apK ty iC bytes n m news b σ.h σ.aj (σ.h b):=aiA h1
def aa0{σ:St}(hb:σ.h b=some ⟨[],none⟩)(h1:0<m)(h2:0<iC)(h3:m*bytes<=140737488355328)(h4:m<=1073741824):uj ty iC bytes (.c (.sl b 0 0 (.ex 0))) m news σ=some (.c (.sl σ.aj 0 m .opn),⟨hset σ.h σ.aj ⟨news,some (iC,ty)⟩,σ.aj+1⟩):=by unfold uj;dsimp only;rw[S9 (by omega:m≠0),hb];simp only[fq,Bk.rd,im,cI,dj,IJ h2,cL,IJ h1,yj h3,yj h4,List.length_nil,cU,ck,lV,uw,gp,gN,Bool.true_and,cB];rfl
def Fr.oG{σ:St}{h:Tr Bk}{n b:Nat}(hf:Fr σ ⟨h,n⟩)(h1:σ.aj<=b):Fr σ ⟨hdel h b,n⟩:=
 ⟨hf.le,λj hj=>by
  show hdel h b j=none;rw[Vf];split
  .rfl
  .exact hf.wf j hj,λj hj=>by
  show hdel h b j=_;rw[eX _ _ _ jb];exact hf.old j hj⟩
def aU.oG{ex:List Nat}{σ:St}{h:Tr Bk}{n b:Nat}(hf:aU ex σ ⟨h,n⟩)(h1:σ.aj<=b\/b∈ex):aU ex σ ⟨hdel h b,n⟩:=
 ⟨hf.le,λj hj=>by
  show hdel h b j=none;rw[Vf];split
  .rfl
  .exact hf.wf j hj,λj hj hx=>by
  show hdel h b j=_;rw[eX _ _ _ (λe=>by grind)];exact hf.old j hj hx⟩
def aV:Nat->Nat->B
 |0,_=>.aP
 |n+1,b=>.sl b 0 (n+1) .opn
def lW:Nat->Tr Bk->Nat->Tr Bk
 |0,h,_=>h
 |_+1,h,b=>hdel h b
def yV:Nat->Tr Bk->Nat->Option Bk
 |0,_,_=>none
 |_+1,h,b=>h b
def gF(n:Nat)(G:Nat->List B)(e ty:Nat):Option Bk:=match n with
 |0=>none
 |n+1=>some ⟨bC (n+1) G,some (e,ty)⟩
def LG(G:Nat->List B)(e:Nat):Prop:=∀j,(G j).length=e
def apF(ty iC bytes n m:Nat)(news:List B)(b:Nat)(h:Tr Bk)(nx:Nat)(k:Option Bk):Option (V×St):=match n with
 |0=>uj ty iC bytes (.c .aP) m news ⟨h,nx⟩
 |n+1=>apK ty iC bytes (n+1) m news b h nx k
theorem MG(n b:Nat):(aV n b).kn=true:=by cases n<;>rfl
def X8(n b:Nat):lenV (.c (aV n b))=some (jN n):=by cases n<;>rfl
theorem iq(n:Nat)(h:Tr Bk)(b j:Nat)(e:n=0\/j≠b):lW n h b j=h j:=by
 cases n with
 |zero=>rfl
 |succ n=>exact eX _ _ _ jb
def anr(k:Nat)(h:Tr Bk)(b j o n:Nat)(g:Bool)(e:k=0\/j≠b):ld (lW k h b) j o n g=ld h j o n g:=by grind[ld,iq]
theorem xw{n:Nat}{h h':Tr Bk}{b:Nat}(e:n=0\/h' b=h b):yV n h' b=yV n h b:=by
 cases n with
 |zero=>rfl
 |succ n=>exact e.resolve_left jb
def aiC(n:Nat)(h:Tr Bk)(j b:Nat)(k:Bk)(e:n=0\/b≠j):yV n (hset h j k) b=yV n h b:=xw (by grind[ak])
def aiD(σ:St)(h1:0<m):uj ty iC bytes (.c (aV n b)) m news σ=apF ty iC bytes n m news b σ.h σ.aj (yV n σ.h b):=by
 cases n with
 |zero=>rfl
 |succ n=>exact Td σ h1
def asO{G:Nat->List B}(h1:0<m)(h2:0<iC)(h3:(n+m)*bytes<=140737488355328)(h4:n+m<=1073741824)(hG:LG G iC):apF ty iC bytes n m news b h nx (gF n G iC ty)=some (.c (.sl nx 0 (n+m) .opn),⟨hset (lW n h b) nx ⟨bC n G++news,some (iC,ty)⟩,nx+1⟩):=by
 cases n with
 |zero=>
  rw[cL]at h3 h4⊢
  exact Tc h1 h2 h3 h4
 |succ n=>
  show apK ty iC bytes (n+1) m news b h nx (some ⟨bC (n+1) G,some (iC,ty)⟩)=_
  rw[X7 h2 h3 h4 (by rw[qB hG];omega),<-qB (n:=n+1) hG,cC]
  rfl
def Fr.lW{σ:St}{h:Tr Bk}{n b k:Nat}(hf:Fr σ ⟨h,n⟩)(h1:k=0\/σ.aj<=b):Fr σ ⟨Xe.lW k h b,n⟩:=by
 cases k with
 |zero=>exact hf
 |succ k=>exact Fr.oG hf jb
def aU.lW{ex:List Nat}{σ:St}{h:Tr Bk}{n b k:Nat}(hf:aU ex σ ⟨h,n⟩)(h1:σ.aj<=b\/b∈ex):aU ex σ ⟨Xe.lW k h b,n⟩:=by
 cases k with
 |zero=>exact hf
 |succ k=>exact aU.oG hf h1
attribute [go_sem] MG X8 iq anr aiC aiD asO
def Fr.up{σ σ':St}{n:Nat}(hf:Fr σ σ')(hn:σ'.aj<=n):Fr σ ⟨σ'.h,n⟩:=⟨ap hf.le hn,λb hb=>hf.wf b (ap hn hb),hf.old⟩
def Fr.pK{σ:St}{h:Tr Bk}{n n':Nat}{k:Bk}(hf:Fr σ ⟨h,n⟩)(hn:n<n'):Fr σ ⟨hset h n k,n'⟩:=Fr.up (Fr.new1 hf) hn
theorem fr{σ σ':St}(h:Fr σ σ':=by repeat(first|assumption|exact Fr.refl (by assumption)|exact Fr.up (by assumption) kf|exact Fr.up (Fr.refl (by assumption)) kf|refine Fr.set1 ?_ kf kf|refine Fr.lW ?_ kf|refine Fr.oG ?_ kf|refine Fr.pK ?_ kf)):Fr σ σ':=h
def aU.up{ex:List Nat}{σ σ':St}{n:Nat}(hf:aU ex σ σ')(hn:σ'.aj<=n):aU ex σ ⟨σ'.h,n⟩:=⟨ap hf.le hn,λb hb=>hf.wf b (ap hn hb),hf.old⟩
def aU.pK{ex:List Nat}{σ:St}{h:Tr Bk}{n n':Nat}{k:Bk}(hf:aU ex σ ⟨h,n⟩)(hn:n<n'):aU ex σ ⟨hset h n k,n'⟩:=aU.up (aU.new1 hf) hn
def aC.st{E:Env}{f:Nat}{args:List V}{σ:St}{K:V->St->Prop}(P:St->Prop)(h:P σ)(h2:P σ->aC E f args σ K):aC E f args σ K:=h2 h
def bM.st{E:Env}{c:AC}{tm:Tr V}{σ:St}{Q:AX->Tr V->St->Prop}(P:St->Prop)(h:P σ)(h2:P σ->bM E c tm σ Q):bM E c tm σ Q:=h2 h
theorem Tf{e:Nat}{l:List B}:∀{n:Nat}{o:Nat}{G:Nat->List B},(∀i,i<n->zW l (o+i*e) e true=some (.agg (G i)))->(l.drop o).take (n*e)=bC n G/\(bC n G).length=n*e/\(bC n G).all B.kn=true
 |0,o,G,_=>by rw[im,cI];exact⟨rfl,rfl,rfl⟩
 |n+1,o,G,h=>by
  have h0:=h 0 jb;rw[im,cB]at h0;unfold zW at h0;dsimp only at h0;cases hx:(Nat.beq ((l.drop o).take e).length e&&((l.drop o).take e).all B.kn)with
  |false=>grind
  |true=>
   rw[hx]at h0
   have e0:(l.drop o).take e=G 0:=by grind
   rw[af]at hx
   have hl:=aw hx.1
   obtain⟨h1,h2,h3⟩:=Tf (o:=o+e) (n:=n) (G:=λi=>G (i+1)) λi hi=>by have:=h (i+1) jb;rw[cj,eN (i*e),<-Nat.add_assoc]at this;exact this
   refine⟨?_,?_,?_⟩
   .unfold bC
    rw[<-e0,<-h1,<-jt,cj,eN (n*e),List.take_add]
   .unfold bC
    rw[aD,h2,<-e0,hl,cj,eN]
   .unfold bC
    rw[List.all_append,h3,<-e0,hx.2];rfl
def Ti{h:Tr Bk}{e b o n:Nat}{G:Nat->List B}(hn:0<n)(hl:∀i,i<n->ld h b (o+i*e) e true=some (.agg (G i))):∃k,h b=some k/\k.rd=true/\(k.cells.drop o).take (n*e)=bC n G/\(bC n G).length=n*e/\(bC n G).all B.kn=true:=by grind[Go.Proofs.Xe.ld,Go.Proofs.Xe.Tf]
def afp(n:Nat)(f:Nat->Rat):(cZ n f).take (n*3)=cZ n f:=by grind[OM]
def afq(n:Nat)(g:Nat->B):(ones n g).take (n*1)=ones n g:=by grind[OO]
def aiE(n:Nat)(f:Nat->Rat):n*3<=(cZ n f).length:=by grind[OM]
def ant(h1:0<m)(h2:0<iC)(h3:m*bytes<=140737488355328)(h4:m<=1073741824):uj ty iC bytes (.c (.sl b 0 0 (.ex 0))) m news ⟨hset h b ⟨[],none⟩,nx⟩=some (.c (.sl nx 0 m .opn),⟨hset (hset h b ⟨[],none⟩) nx ⟨news,some (iC,ty)⟩,nx+1⟩):=aa0 (aA _ _ _) h1 h2 h3 h4
def aa1:∀{n:Nat}{G:Nat->List B},(∀j,(G j).all B.kn=true)->(bC n G).all B.kn=true
 |0,_,_=>rfl
 |n+1,G,h=>by unfold bC;rw[List.all_append,h 0,aa1 λj=>h (j+1)];rfl
def anu(n:Nat)(f:Nat->Rat):(cZ n f).all B.kn=true:=aa1 λ_=>rfl
def aww:((Int.ofNat 1:Int):Rat)=1:=rfl
def awx:((Int.ofNat 0:Int):Rat)=0:=rfl
attribute [go_sem] ant anu Bool.not_true Bool.not_false aww awx eX asL afl awv afn acS aiz aiB aaY aaZ Td X7 afo afp afq OM OO afk
end Go.Proofs.Xe
namespace Go.Proofs.Xe
open Go.RowKit Go.Proofs.Ins
def OQ(k:IntKind)(v:V):Option V:=match v with|.c (.int _ n)=>bif JC k n then some (.c (.int k n))else some (.c (.int k (k.wrap n)))|_=>none
def asP(E:Env)(tm:Tr V)(σ:St)(K:V->St->Prop)(k:IntKind)(x:O):wpOp E (.conv k x) tm σ K=H8 (OQ k (x.ev tm)) λv=>K v σ:=iF _ _ _ _ rfl λ_ _ h=>by cases h
def acT{k j:IntKind}{n:Int}(h:k.wrap n=n):OQ k (.c (.int j n))=some (.c (.int k n)):=by grind[OQ]
def asQ(j:IntKind)(a:Nat)(h:a<=9223372036854775807):OQ .i64 (.c (.int j (.ofNat a)))=some (jN a):=acT (by grind[IntKind.wrap_i64])
def asR(j:IntKind)(a:Nat)(h:a<=18446744073709551615):OQ .u64 (.c (.int j (.ofNat a)))=some (.c (.int .u64 (.ofNat a))):=acT (by grind[IntKind.wrap_u64])
def asT(j:IntKind)(a:Nat):OQ .u16 (.c (.int j (.ofNat a)))=some (.c (.int .u16 (.ofNat (a%65536)))):=by rfl
theorem AP(op:BinOp)(k:IntKind)(a b:Int):oL op (.c (.int k a)) (.c (.int k b))=Q9 op k a b:=by unfold oL;simp
def awy(k:IntKind)(a b:Nat)(h:0<b):oL .rem (.c (.int k (.ofNat a))) (.c (.int k (.ofNat b)))=some (.c (.int k (.ofNat (a%b)))):=by grind[AP,Q9,BI]
def asU(k:IntKind)(a b:Nat)(h:0<b)(hw:k.wrap (Int.ofNat (a/b))=Int.ofNat (a/b)):oL .quo (.c (.int k (.ofNat a))) (.c (.int k (.ofNat b)))=some (.c (.int k (.ofNat (a/b)))):=by grind[AP,Q9,BI]
def xA(a b m:Nat)(h:a<=m):a/b<=m:=ap (fm _ _) h
def afr(a b:Nat)(h:0<b)(h2:a<=65535):oL .quo (.c (.int .u16 (.ofNat a))) (.c (.int .u16 (.ofNat b)))=some (.c (.int .u16 (.ofNat (a/b)))):=asU _ _ _ h (by have:=xA a b _ h2;grind[IntKind.wrap_u16])
def acU(k:IntKind)(a b:Nat)(ha:a<2^k.bits)(hb:b<2^k.bits):(BitVec.ofInt k.bits (Int.ofNat a)&&&BitVec.ofInt k.bits (Int.ofNat b)).toNat=a&&&b:=by grind
def afs(a b:Nat)(ha:a<=9223372036854775807)(hb:b<=9223372036854775807):oL .and (jN a) (jN b)=some (jN (a&&&b)):=by rw[AP];unfold Q9 BI;dsimp only;rw[acU .i64 a b (by show a<18446744073709551616;omega) (by show b<18446744073709551616;omega),IntKind.wrap_i64];grind[Nat.and_le_left]
def aft(a b:Nat)(ha:a<=65535)(hb:b<=65535):oL .and (.c (.int .u16 (.ofNat a))) (.c (.int .u16 (.ofNat b)))=some (.c (.int .u16 (.ofNat (a&&&b)))):=by rw[AP];unfold Q9 BI;dsimp only;rw[acU .u16 a b (by show a<65536;omega) (by show b<65536;omega),IntKind.wrap_u16];grind[Nat.and_le_left]
def afu(a b:Nat):oL .add (.c (.int .u16 (.ofNat a))) (.c (.int .u16 (.ofNat b)))=some (.c (.int .u16 (.ofNat ((a+b)%65536)))):=by rfl
def afv(a b:Nat):oL .mul (.c (.int .u16 (.ofNat a))) (.c (.int .u16 (.ofNat b)))=some (.c (.int .u16 (.ofNat (a*b%65536)))):=by rfl
def awz(a b:Nat)(h:a*b<=9223372036854775807):oL .mul (jN a) (jN b)=some (jN (a*b)):=by show mkI .i64 (Int.ofNat a*Int.ofNat b)=_;rw[show Int.ofNat a*Int.ofNat b=Int.ofNat (a*b)from rfl,U9 h]
def awD(k j:IntKind)(a c:Nat):oL .shr (.c (.int k (.ofNat a))) (.c (.int j (.ofNat c)))=some (.c (.int k (.ofNat (a/2^min c k.bits)))):=by
 have e:oL .shr (.c (.int k (.ofNat a))) (.c (.int j (.ofNat c)))=aay .shr k (.ofNat a) (.ofNat c):=by
  unfold oL;dsimp only;by_cases h:k=j
  .subst h;rw[be rfl];rfl
  grind
 rw[e];unfold aay;grind
def aiF:IntKind.bits .i64=64:=rfl
def aiG:IntKind.bits .u16=16:=rfl
def aiH:IntKind.bits .u64=64:=rfl
def asV(k:IntKind)(a b:Int):oL .eql (.c (.int k a)) (.c (.int k b))=some (.c (.bool (decide (a=b)))):=by rw[AP];rfl
def asW(k:IntKind)(a b:Int):oL .neq (.c (.int k a)) (.c (.int k b))=some (.c (.bool (!decide (a=b)))):=by rw[AP];rfl
attribute [go_sem] asP asQ asR asT awy afr afs aft afu afv awz awD aiF aiG aiH asV asW
end Go.Proofs.Xe
namespace Go.Proofs.Ins
open Go.RowKit
def Own(w:World)(b sz n:Nat)(F:Nat->List Value):Prop:=
 ∃c T,w.heap[b]?=some (.cells c T (0,0))/\c.size=n*sz/\∀i j,i<n->j<sz->c[i*sz+j]?=(F i)[j]?
def aN(F:Nat->List Value)(i:Nat)(x:List Value)(k:Nat):List Value:=if k=i then x else F k
theorem aK(F:Nat->List Value)(i:Nat)(x:List Value):aN F i x i=x:=ae rfl
def mW.mono{w:World}{base base':Nat}{T:TypeId}{sz:Nat}{v:Value}{n:Nat}{F:Nat->List Value}(h:mW w base T sz v n F)(hb:base'<=base):mW w base' T sz v n F:=by
 obtain⟨⟨h1,h2⟩,h3⟩:=h;refine⟨⟨h1,?_⟩,h3⟩;rcases h2 with h2|⟨g,cap,cur,hv,hg,r⟩
 .exact .inl h2
 .exact .inr ⟨g,cap,cur,hv,ap hb hg,r⟩
def ix{α:Type}[Inhabited α](l:List α)(i:Nat):α:=l.getD i default
theorem dU{α:Type}[Inhabited α]{l:List α}{i:Nat}(h:i<l.length):ix l i=l[i]:=by grind[ix]
def Tj{α:Type}[Inhabited α](l:List α)(x:α)(i:Nat):ix (l++[x]) i=if i<l.length then ix l i else if i=l.length then x else default:=by grind[ix]
theorem mX{α:Type}[Inhabited α]{l:List α}{i:Nat}(h:i<l.length):ix l i∈l:=by grind[dU]
def Vg{α:Type}[Inhabited α]{l:List α}{i k:Nat}(h:i<k):ix (l.take k) i=ix l i:=by grind[ix]
theorem bU{α:Type}[Inhabited α]{l:List α}{k:Nat}(h:k<l.length):l.take (k+1)=l.take k++[ix l k]:=by grind[dU,List.take_add_one]
structure C5 where
 h:Int
 r:Int
 a:R3
instance:Inhabited C5:=⟨⟨0,0,default⟩⟩
def C5.c(x:C5):List Value:=[.int .i64 x.h,.int .i64 x.r,.bool x.a.n,.string x.a.s,.string x.a.d]
structure yw where
 k:Int
 b:Bool
 a:R3
instance:Inhabited yw:=⟨⟨0,false,default⟩⟩
def yw.c(x:yw):List Value:=[.int .i64 x.k,.bool x.b,.bool x.a.n,.string x.a.s,.string x.a.d]
structure Lg where
 e:Int
 k:Int
instance:Inhabited Lg:=⟨⟨0,0⟩⟩
def Lg.c(x:Lg):List Value:=[.int .i64 x.e,.int .i64 x.k]
abbrev IL:=List yw
abbrev fD:=List IL
structure vP where
 m:R3
 c:List C5
 a:List fD
instance:Inhabited vP:=⟨⟨default,[],[]⟩⟩
structure qx where
 w:R3
 l:List Lg
instance:Inhabited qx:=⟨⟨default,[]⟩⟩
structure fC where
 e:List vP
 d:List qx
instance:Inhabited fC:=⟨⟨[],[]⟩⟩
def Sl(w:World)(p:Nat->Prop)(sz:Nat)(v:Value)(n:Nat)(G:Nat->List Value):Prop:=
 ∃a cap,v=.slice a n cap/\n<=cap/\cap<=9223372036854775807/\(n=0\/∃b off,a=some ⟨b,off,none⟩/\p b/\b<w.heap.size/\Gv w b off sz n G)/\∀i,i<n->(G i).length=sz
theorem Sl.nil(w:World)(p:Nat->Prop)(sz:Nat)(G:Nat->List Value):Sl w p sz (.slice none 0 0) 0 G:=⟨none,0,rfl,jp,jb,.inl rfl,λi hi=>jb⟩
def Sl.mono{w:World}{p q:Nat->Prop}{sz:Nat}{v:Value}{n:Nat}{G:Nat->List Value}(h:Sl w p sz v n G)(hp:∀b,p b->q b):Sl w q sz v n G:=by obtain⟨a,cap,hv,h1,h2,h3,h4⟩:=h;refine⟨a,cap,hv,h1,h2,?_,h4⟩;grind
def Sl.keep{w w':World}{p:Nat->Prop}{sz:Nat}{v:Value}{n:Nat}{G:Nat->List Value}(h:Sl w p sz v n G)(hb:∀b,p b->b<w.heap.size->w'.heap[b]?=w.heap[b]?):Sl w' p sz v n G:=by
 obtain⟨a,cap,hv,h1,h2,h3,h4⟩:=h;refine⟨a,cap,hv,h1,h2,?_,h4⟩;rcases h3 with h3|⟨b,off,ha,hpb,hl,r⟩
 .omega
 .have e:=hb b hpb hl;refine .inr ⟨b,off,ha,hpb,?_,λi j hi hj=>?_⟩
  .grind
  .rw[World.cell?_of_block (w:=w) (a:=⟨b,off+i*sz+j,none⟩) e];exact r i j hi hj
def Sl.congr{w:World}{p:Nat->Prop}{sz:Nat}{v:Value}{n:Nat}{G G':Nat->List Value}(h:Sl w p sz v n G)(hg:∀i,i<n->G i=G' i):Sl w p sz v n G':=by
 obtain⟨a,cap,hv,h1,h2,h3,h4⟩:=h;refine⟨a,cap,hv,h1,h2,?_,λi hi=>by grind⟩;rcases h3 with h3|⟨b,off,ha,hpb,hl,r⟩
 .omega
 .exact .inr ⟨b,off,ha,hpb,hl,λi j hi hj=>by rw[<-hg i hi];exact r i j hi hj⟩
def RL{α:Type}[Inhabited α](w:World)(p:Nat->Prop)(sz:Nat)(Q:List Value->α->Prop)(v:Value)(l:List α):Prop:=
 ∃G,Sl w p sz v l.length G/\∀i,i<l.length->Q (G i) (ix l i)
theorem RL.imp{α:Type}[Inhabited α]{w w':World}{p q:Nat->Prop}{sz:Nat}{Q Q':List Value->α->Prop}{v:Value}{l:List α}(h:RL w p sz Q v l)(hp:∀b,p b->q b)
  (hb:∀b,p b->b<w.heap.size->w'.heap[b]?=w.heap[b]?) (hQ:∀c x,Q c x->Q' c x):RL w' q sz Q' v l:=by
 obtain⟨G,h1,h2⟩:=h
 exact⟨G,(h1.keep hb).mono hp,λi hi=>hQ _ _ (h2 i hi)⟩
def QV{α:Type}(c:α->List Value)(cs:List Value)(x:α):Prop:=cs=c x
def RL.plain{α:Type}[Inhabited α]{w:World}{p:Nat->Prop}{sz:Nat}{c:α->List Value}{v:Value}{l:List α}(h:RL w p sz (QV c) v l):Sl w p sz v l.length (λi=>c (ix l i)):=by obtain⟨G,h1,h2⟩:=h;exact h1.congr h2
def DN(w:World)(p:Nat->Prop)(v:Value)(l:List yw):Prop:=RL w p 5 (QV yw.c) v l
def acV(w:World)(p:Nat->Prop)(cs:List Value)(t:IL):Prop:=∃v,cs=[v]/\DN w p v t
def yx(w:World)(p:Nat->Prop)(v:Value)(l:fD):Prop:=RL w p 1 (acV w p) v l
structure Keeps(p:Nat->Prop)(w w':World):Prop where
 block:∀b,p b->b<w.heap.size->w'.heap[b]?=w.heap[b]?
def Keeps.of_below{p:Nat->Prop}{w w':World}(h:Below w.heap.size w w'):Keeps p w w':=⟨λb _ hb=>h.block b hb⟩
section
variable {w w' : World} {p q:Nat→Prop} {v:Value} {cs:List Value}
def DN.keep{l:List yw}(h:DN w p v l)(k:Keeps p w w')(hp:∀b,p b->q b):DN w' q v l:=RL.imp h hp k.block λ_ _ h=>h
def acV.keep{t:IL}(h:acV w p cs t)(k:Keeps p w w')(hp:∀b,p b->q b):acV w' q cs t:=by obtain⟨v,e,h⟩:=h;exact⟨v,e,h.keep k hp⟩
def yx.keep{l:fD}(h:yx w p v l)(k:Keeps p w w')(hp:∀b,p b->q b):yx w' q v l:=RL.imp h hp k.block λ_ _ h=>h.keep k hp
def DN.on{l:List yw}(h:DN w p v l)(k:Below w.heap.size w w'):DN w' p v l:=h.keep (.of_below k) λ_ h=>h
def yx.on{l:fD}(h:yx w p v l)(k:Below w.heap.size w w'):yx w' p v l:=h.keep (.of_below k) λ_ h=>h
end
def Sl.get{w:World}{p:Nat->Prop}{sz:Nat}{a:Option Addr}{n cap:Nat}{G:Nat->List Value}(h:Sl w p sz (.slice a n cap) n G)(hn:0<n):
  ∃b off,a=some ⟨b,off,none⟩/\p b/\b<w.heap.size/\Gv w b off sz n G:=by
 obtain⟨a',cap',hv,h1,h2,h3,h4⟩:=h
 grind
def Sl.form{w:World}{p:Nat->Prop}{sz:Nat}{v:Value}{n:Nat}{G:Nat->List Value}(h:Sl w p sz v n G):∃a cap,v=.slice a n cap/\n<=cap/\cap<=9223372036854775807:=by obtain⟨a,cap,hv,h1,h2,_⟩:=h;grind
def mW.sl{w:World}{base:Nat}{T:TypeId}{sz:Nat}{v:Value}{n:Nat}{F:Nat->List Value}(h:mW w base T sz v n F):Sl w (λb=>base<=b) sz v n F:=by
 rcases h.form with⟨rfl,rfl⟩|⟨g,cap,rfl,hb,hn,hm,hl,hr⟩
 .grind[Sl.nil]
 .exact⟨_,cap,rfl,hn,hm,.inr ⟨g,0,rfl,hb,hl,hr⟩,h.2⟩
def Sl.cellAt{w w':World}{p:Nat->Prop}{sz n:Nat}{a:Option Addr}{cap:Nat}{G:Nat->List Value}(h:Sl w p sz (.slice a n cap) n G){b off:Nat}(ha:a=some ⟨b,off,none⟩)(k:Below w.heap.size w w'){i j:Nat}(hi:i<n)(hj:j<sz):
  w'.cell? ⟨b,off+i*sz+j,none⟩=(G i)[j]?:=by
 obtain⟨b',off',ha',-,hl,hr⟩:=h.get jb
 rw[ha]at ha'
 simp only[bh,Addr.mk.injEq,and_true]at ha'
 obtain⟨rfl,rfl⟩:=ha'
 exact(hr.below k hl) i j hi hj
end Go.Proofs.Ins
namespace Go.Proofs.Xe
open Go.RowKit Go.Proofs.Ins
def yX(N:Nat):Value->B
 |.int k n=>.int k n
 |.bool b=>.bool b
 |.string s=>.str s
 |.pointer (some a)=>if a.spot=none/\a.block<N then .ptr a.block a.off else .any
 |.pointer none=>.UM
 |.slice (some a) n K=>if K<=9223372036854775807 then(if a.spot=none/\a.block<N/\n<=K then .sl a.block a.off n .any else if n=0 then .sl 0 0 0 .any else .any)else .any
 |.slice none 0 0=>.aP
 |_=>.any
def Ph.id(N:Nat):Ph:=λb=>if b<N then some (b,0)else none
theorem E5(N:Nat)(v:Value)(h:(yX N v).kn=true):RB (Ph.id N) (yX N v) v:=by
 unfold yX at h⊢;split at h<;>try rfl
 .next a=>
  split at h
  .next hc=>
   rw[ae hc];obtain⟨b,o,s⟩:=a;obtain⟨h1,h2⟩:=hc;dsimp only at h1 h2;subst h1;exact⟨(b,0),ae h2,rfl⟩
  .cases h
 .next a n K=>
  split at h
  .next hK=>
   rw[ae hK];split at h
   .next hc=>
    rw[ae hc];obtain⟨b,o,s⟩:=a;obtain⟨h1,h2,h3⟩:=hc;dsimp only at h1 h2;subst h1;exact .inl ⟨(b,0),K,ae h2,rfl,h3,hK,trivial⟩
   .next hc=>
    rw[ab hc];split at h
    .next h0=>
     subst h0;rw[ae rfl];exact .inr ⟨rfl,rfl,a,K,rfl,hK⟩
    .cases h
  .cases h
 .cases h
def St.of(w:World):St:=⟨.fn λb=>match w.heap[b]? with|some (.cells cs _ _)=>some ⟨cs.toList.map (yX w.heap.size),some (0,1)⟩|_=>none,w.heap.size⟩
def WF.of(w:World):WF (St.of w):=λb hb=>by have hb:w.heap.size<=b:=hb;show(match w.heap[b]? with|some (.cells cs _ _)=>some _|_=>none)=none;grind
def Rel.of(w:World):Rel w.heap.size w (Ph.id w.heap.size) (St.of w) w where
 n0:=jp
 bel:=Below.refl _ _
 inj:=λb b' p p' h1 _ _ hN _ _=>by grind[Ph.id]
 lo:=λb p h=>by grind[Ph.id]
 fz:=λb k p hk _ _=>by
  have hk:(match w.heap[b]? with|some (.cells cs _ _)=>some (⟨cs.toList.map (yX w.heap.size),some (0,1)⟩:Bk)|_=>none)=some k:=hk;split at hk
  .cases hk;exact⟨rfl,rfl⟩
  grind
 blk:=λb k p hk hp=>by
  have hp':p.1=b/\b<w.heap.size:=by grind[Ph.id]
  have hk:(match w.heap[b]? with|some (.cells cs _ _)=>some (⟨cs.toList.map (yX w.heap.size),some (0,1)⟩:Bk)|_=>none)=some k:=hk;split at hk
  .next cs T z hcs=>
   cases hk;refine .inr (.inr ⟨rfl,rfl,λj x hj hx=>?_⟩);grind[Go.Proofs.Xe.E5,Go.World.cell?]
  grind
 aj:=λb hb=>by have hb:w.heap.size<=b:=hb;refine⟨ab jb,?_⟩;show(match w.heap[b]? with|some (.cells cs _ _)=>some _|_=>none)=none;grind
def awE{w:World}{b o n:Nat}{l:List Value}(hn:l.length=n)(h0:0<n)(h:∀j v,l[j]?=some v->w.cell? ⟨b,o+j,none⟩=some v)(hk:∀v∈l,(yX w.heap.size v).kn=true):
  ld (St.of w).h b o n true=some (.agg (l.map (yX w.heap.size))):=by
 have hc:∃cs T z,w.heap[b]?=some (.cells cs T z)/\(cs.toList.drop o).take n=l:=by
  match l,hn with
  |v::l',hn=>
   have h1:=h 0 v rfl
   unfold World.cell? at h1
   dsimp only at h1
   split at h1
   .next cs T z e=>
    refine⟨cs,T,z,e,?_⟩
    apply List.ext_getElem?
    grind[Go.World.cell?]
   grind
  |[],hn=>simp at hn;omega
 obtain⟨cs,T,z,e,hl⟩:=hc
 have hg:(St.of w).h b=some ⟨cs.toList.map (yX w.heap.size),some (0,1)⟩:=by show(match w.heap[b]? with|some (.cells cs _ _)=>some (⟨cs.toList.map (yX w.heap.size),some (0,1)⟩:Bk)|_=>none)=_;rw[e]
 unfold ld
 rw[hg]
 show(bif true then _ else _)=_
 grind[zW,List.map_drop,List.map_take,XY]
def acW(N:Nat)(a:Addr)(n K:Nat):yX N (.slice (some a) n K)=if K<=9223372036854775807 then(if a.spot=none/\a.block<N/\n<=K then .sl a.block a.off n .any else if n=0 then .sl 0 0 0 .any else .any)else .any:=rfl
def HL.of{w:World}{a:Option Addr}{n cap e:Nat}{F:Nat->List Value}(h:aez w a n e F)(hf:(a=none/\n=0/\cap=0)\/∃x,a=some x)(hn:n<=cap)(hc:cap<=9223372036854775807)(he:0<e)(hF:∀i,i<n->(F i).length=e)(hk:∀i,i<n->∀v∈F i,(yX w.heap.size v).kn=true):
  HL (St.of w).h e (yX w.heap.size (.slice a n cap)) n λi=>(F i).map (yX w.heap.size):=by
 rcases hf with⟨rfl,rfl,rfl⟩|⟨x,rfl⟩
 .exact .inl ⟨rfl,rfl⟩
 .by_cases h0:n=0
  .subst h0
   rw[acW,ae hc]
   split
   .exact .inr ⟨_,_,_,rfl,λi hi=>jb⟩
   .rw[ae rfl];exact .inr ⟨_,_,_,rfl,λi hi=>jb⟩
  .rcases h with h|⟨b,off,e1,hb,hr⟩
   .omega
   .cases e1
    rw[acW,ae hc,ae ⟨rfl,hb,hn⟩]
    refine .inr ⟨_,_,_,rfl,λi hi=>awE (hF i hi) he (λj v hj=>?_) (hk i hi)⟩
    have hlt:j<e:=by grind
    have:=hr i j hi hlt
    grind
end Go.Proofs.Xe
end
