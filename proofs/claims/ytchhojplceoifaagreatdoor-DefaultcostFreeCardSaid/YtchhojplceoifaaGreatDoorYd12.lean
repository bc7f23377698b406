import Derived.Test.YtchhojplceoifaaGreatDoorYd11
set_option linter.all false
noncomputable section
namespace Go.Proofs.Xe
open Go.RowKit Go.Proofs.Ins
def bC:Nat->(Nat->List B)->List B
 |0,_=>[]
 |n+1,G=>G 0++bC n λi=>G (i+1)
def XW{e:Nat}:∀{n:Nat}{G:Nat->List B}{i:Nat},(∀j,(G j).length=e)->i<n->∃r,(bC n G).drop (i*e)=G i++r
 |0,_,_,_,h=>jb
 |n+1,G,0,_,_=>⟨bC n λi=>G (i+1),by rw[il];rfl⟩
 |n+1,G,i+1,hG,h=>by obtain⟨r,hr⟩:=XW (G:=λi=>G (i+1)) (i:=i) (λj=>hG (j+1)) (by omega:i<n);refine⟨r,?_⟩;show(G 0++bC n λi=>G (i+1)).drop _=_;rw[cg,eM,<-hG 0,List.drop_length_add_append,hG 0];exact hr
def zX{e n i k m:Nat}{G:Nat->List B}(g:Bool)(hG:∀j,(G j).length=e)(h:i<n)(hk:k+m<=e)(hm:0<m):zO (bC n G) (i*e+k) m g=zO (G i) k m g:=by
 obtain⟨r,hr⟩:=XW hG h;have hd:(bC n G).drop (i*e+k)=(G i).drop k++r:=by rw[<-js,hr,List.drop_append_of_le_length kd]
 have hl:((G i).drop k).length=e-k:=by grind
 unfold zO;grind
def aik:∀(p:List B) (l:List B) (o:Nat) (vs:List B),yN (p++l) (p.length+o) vs=match yN l o vs with|some r=>some (p++r)|none=>none
 |[],l,o,vs=>by grind
 |x::p,l,o,vs=>by rw[fq,bB,show p.length+1+o=(p.length+o)+1 by omega,yN,aik p l o vs];cases yN l o vs<;>rfl
def acL:∀(p:List B) (l:List B) (o:Nat) (vs:List B),o+vs.length<=p.length->yN (p++l) o vs=match yN p o vs with|some r=>some (r++l)|none=>none
 |p,l,0,vs,h=>by grind[yN,xZ]
 |[],l,o+1,vs,h=>by simp at h
 |x::p,l,o+1,vs,h=>by rw[fq,yN,yN,acL p l o vs (by simp only[bB]at h;omega)];cases yN p o vs<;>rfl
def iP(G:Nat->List B)(i:Nat)(r:List B):Nat->List B:=λj=>if j=i then r else G j
def x9{e k:Nat}{vs:List B}:∀{n i:Nat}{G:Nat->List B},(∀j,(G j).length=e)->i<n->k+vs.length<=e->yN (bC n G) (i*e+k) vs=match yN (G i) k vs with|some r=>some (bC n (iP G i r))|none=>none
 |0,_,_,_,h,_=>jb
 |n+1,0,G,hG,_,hk=>by rw[il,cK];show yN (G 0++_) k vs=_;rw[acL _ _ _ _ kd];rfl
 |n+1,i+1,G,hG,h,hk=>by
  show yN (G 0++bC n λi=>G (i+1)) _ vs=_;rw[show(i+1)*e+k=(G 0).length+(i*e+k) by rw[hG,cg];omega,aik,x9 (λj=>hG (j+1)) jb hk];cases yN (G (i+1)) k vs with
  |none=>rfl
  |some r=>
   show some _=some _
   congr 1
   show G 0++_=iP G (i+1) r 0++_
   congr 2
   funext j
   unfold iP
   simp only[Nat.add_right_cancel_iff]
theorem bH:∀{n:Nat}{G H:Nat->List B},(∀i,i<n->G i=H i)->bC n G=bC n H
 |0,_,_,_=>rfl
 |n+1,G,H,h=>by unfold bC;rw[h 0 jb,bH λi hi=>h (i+1) jb]
def MH(z:List B):∀n,rep z n=bC n λ_=>z
 |0=>rfl
 |n+1=>by unfold rep bC;rw[MH z n]
theorem jr:∀(n:Nat) (G:Nat->List B) (r:List B),bC n G++r=bC (n+1) (iP G n r)
 |0,G,r=>by grind[bC,iP]
 |n+1,G,r=>by rw[bC,ii,jr n _ r];show _=iP G (n+1) r 0++bC (n+1) _;congr 2;funext j;unfold iP;simp only[Nat.add_right_cancel_iff]
theorem qw{e:Nat}:∀{n:Nat}{G:Nat->List B},(∀j,(G j).length=e)->(bC n G).length=n*e
 |0,_,_=>by simp[bC]
 |n+1,G,h=>by rw[bC,aD,h,qw λj=>h (j+1),cg];omega
def yc{h:Tr Bk}{b o n:Nat}{cs:List B}(e:ld h b o n true=some (.agg cs))(k m:Nat)(g:Bool)(hk:k+m<=n)(hm:0<m):ld h b (o+k) m g=zO cs k m g:=by
 unfold ld at e⊢;cases hb:h b with
 |none=>grind
 |some bk=>
  rw[hb]at e
  dsimp only at e⊢
  cases hr:bk.rd with
  |false=>grind
  |true=>
   rw[hr]at e
   simp only[cj]at e⊢
   unfold zO at e
   dsimp only at e
   cases hx:(Nat.beq ((bk.cells.drop o).take n).length n&&((bk.cells.drop o).take n).all B.kn)with
   |false=>grind
   |true=>
    rw[hx]at e
    cases e
    rw[af]at hx
    have hl:=aw hx.1
    rw[di]at hl
    unfold zO
    cases g with
    |true=>
     grind[List.drop_take,List.drop_drop]
    |false=>
     dsimp only
     rw[List.drop_take,js]
     have hd:n-k=(n-k-1)+1:=jb
     grind
def BF{h:Tr Bk}{b o n:Nat}{cs:List B}(e:ld h b o n true=some (.agg cs))(m:Nat)(g:Bool)(hk:m<=n)(hm:0<m):ld h b o m g=zO cs 0 m g:=yc e 0 m g jb hm
def dY(q:Rat):List B:=[.bool (rn q),.str (rs q),.str (rd q)]
def cO(n:Nat)(f:Nat->Rat):List B:=bC n λi=>dY (f i)
def aN{α:Type}(f:Nat->α)(i:Nat)(q:α):Nat->α:=λj=>if j=i then q else f j
def U9(n:Nat)(f:Nat->Rat)(i:Nat)(h:i<n):zO (cO n f) (i*3) 3 true=some (.agg [.bool (rn (f i)),.str (rs (f i)),.str (rd (f i))]):=by unfold cO;have:=zX (e:=3) (k:=0) (m:=3) (G:=λi=>dY (f i)) true (λ_=>rfl) h jj jj;rw[cA]at this;rw[this];rfl
def ane(n:Nat)(f:Nat->Rat)(i:Nat)(q:Rat)(h:i<n):yN (cO n f) (i*3) [.bool (rn q),.str (rs q),.str (rd q)]=some (cO n (aN f i q)):=by unfold cO;have:=x9 (e:=3) (k:=0) (vs:=dY q) (G:=λi=>dY (f i)) (λ_=>rfl) h (cM 3);rw[cA]at this;show yN _ _ (dY q)=_;rw[this];show some _=some _;congr 2;funext j;unfold iP aN;split<;>rfl
theorem dR{n:Nat}{f g:Nat->Rat}(h:∀i,i<n->f i=g i):cO n f=cO n g:=bH λi hi=>by grind
def ail(n:Nat):rep [.bool (rn 0),.str (rs 0),.str (rd 0)] n=cO n λ_=>0:=MH _ n
def afc(n:Nat)(f:Nat->Rat)(q:Rat):cO n f++[.bool (rn q),.str (rs q),.str (rd q)]=cO (n+1) (aN f n q):=by unfold cO;rw[show [B.bool (rn q),.str (rs q),.str (rd q)]=dY q from rfl,jr];congr 1;grind[iP,aN]
theorem OL(n:Nat)(f:Nat->Rat):(cO n f).length=n*3:=qw λ_=>rfl
def ones(n:Nat)(g:Nat->B):List B:=bC n λi=>[g i]
def acM(n:Nat)(g:Nat->B)(i:Nat)(h:i<n):zO (ones n g) (i*1) 1 false=bif (g i).kn then some (.c (g i))else none:=by unfold ones;have:=zX (e:=1) (k:=0) (m:=1) (G:=λi=>[g i]) false (λ_=>rfl) h jj jj;rw[cA]at this;rw[this];rfl
def anf(n:Nat)(g:Nat->B)(i:Nat)(x:B)(h:i<n):yN (ones n g) (i*1) [x]=some (ones n (aN g i x)):=by unfold ones;have:=x9 (e:=1) (k:=0) (vs:=[x]) (G:=λi=>[g i]) (λ_=>rfl) h (cM 1);rw[cA]at this;rw[this];show some _=some _;congr 2;grind[iP,aN]
def dB{n:Nat}{f g:Nat->B}(h:∀i,i<n->f i=g i):ones n f=ones n g:=bH λi hi=>by grind
def ain(x:B)(n:Nat):rep [x] n=ones n λ_=>x:=MH _ n
theorem OM(n:Nat)(g:Nat->B):(ones n g).length=n*1:=qw λ_=>rfl
theorem aK{α:Type}(f:Nat->α)(i:Nat)(q:α):aN f i q i=q:=ae rfl
theorem aS{α:Type}(f:Nat->α)(i j:Nat)(q:α)(h:j≠i):aN f i q j=f j:=ab h
def Va:Option V->Nat->Option Nat
 |none,d=>some d
 |some v,_=>KP v
def aio(b:Option O)(tm:Tr V)(d:Nat):Xg b tm d=Va (b.map (·.ev tm)) d:=by cases b<;>rfl
def Vb(iC:Nat)(x:V)(lo hi mx:Option V):Option V:=
 match x with
 |.c (.sl b o n c)=>
  match Va lo 0,Va hi n with
  |some l,some h=>bif Nat.ble l h&&Nat.ble h n then
    match mx with
    |none=>(match c with
     |.ex k=>bif Nat.blt l k then some (.c (.sl b (o+l*iC) (h-l) (.ex (k-l))))else some (.c (.sl b o 0 .any))
     |.opn=>bif Nat.beq l 0 then some (.c (.sl b o h .opn))else bif Nat.blt l n then some (.c (.sl b (o+l*iC) (h-l) .any))else some (.c (.sl b o 0 .any))
     |.any=>bif Nat.blt l n then some (.c (.sl b (o+l*iC) (h-l) .any))else some (.c (.sl b o 0 .any)))
    |some y=>match KP y with
     |some q=>bif Nat.ble h q&&Nat.ble q n then bif Nat.beq l 0 then some (.c (.sl b o h (bif Nat.beq n 0 then .any else .ex q)))else none else none
     |none=>none
   else none
  |_,_=>none
 |.c .aO=>match Va lo 0,Va hi 0 with
  |some 0,some 0=>(match mx with|none=>some (.c .aO)|some y=>match KP y with|some 0=>some (.c .aO)|_=>none)
  |_,_=>none
 |_=>none
def XY(iC:Nat)(x:O)(lo hi mx:Option O)(tm:Tr V):Ob iC x lo hi mx tm=Vb iC (x.ev tm) (lo.map (·.ev tm)) (hi.map (·.ev tm)) (mx.map (·.ev tm)):=by unfold Ob Vb;simp only[um,aio];cases mx<;>rfl
def ang(E:Env)(tm:Tr V)(σ:St)(K:V->St->Prop)(iC:Nat)(x:O)(lo hi mx:Option O):wpOp E (.slice iC x lo hi mx) tm σ K=Hu (Vb iC (x.ev tm) (lo.map (·.ev tm)) (hi.map (·.ev tm)) (mx.map (·.ev tm))) λv=>K v σ:=by rw[iF _ _ _ _ (by rfl) λ_ _ h=>by cases h];show Hu (Ob iC x lo hi mx tm) _=_;rw[XY]
def anh:B->Prop
 |.sl _ _ n (.ex k)=>n<=k
 |_=>True
def asz{v:B}{n h:Nat}(hc:anh v)(hv:(n=0/\v=.aO)\/∃b o c,v=.sl b o n c/\0<n)(hh:h<=n)(iC:Nat):∃v',Vb iC (.c v) none (some (.c (.int .i64 (.ofNat h)))) none=some (.c v')/\anh v'/\((n=0/\v'=.aO)\/∃b o c c',v=.sl b o n c/\v'=.sl b o h c'):=by
 rcases hv with⟨rfl,rfl⟩|⟨b,o,c,rfl,hn⟩
 .have:h=0:=jb;subst this;exact⟨.aO,rfl,trivial,.inl ⟨rfl,rfl⟩⟩
 .cases c with
  |ex k=>
   have hc:n<=k:=hc
   refine⟨.sl b o h (.ex k),?_,by show h<=k;omega,.inr ⟨b,o,_,_,rfl,rfl⟩⟩
   grind[Vb,Va,KP,xZ,IE]
  |opn=>
   refine⟨.sl b o h .opn,?_,trivial,.inr ⟨b,o,_,_,rfl,rfl⟩⟩
   grind[Vb,Va,KP,xZ,XQ]
  |any=>
   refine⟨.sl b o h .any,?_,trivial,.inr ⟨b,o,_,_,rfl,rfl⟩⟩
   grind[Vb,Va,KP,xZ,IE]
attribute [go_sem] ang Option.map_some Option.map_none
attribute [go_sem] U9 ane ail acM anf ain
structure aU(ex:List Nat)(σ σ':St):Prop where
 le:σ.aj<=σ'.aj
 wf:WF σ'
 old:∀b,b<σ.aj->¬b∈ex->σ'.h b=σ.h b
def Fr.ex{σ σ':St}(h:Fr σ σ')(ex:List Nat):aU ex σ σ':=⟨h.le,h.wf,λb hb _=>h.old b hb⟩
theorem aU.refl{σ:St}{ex:List Nat}(h:WF σ):aU ex σ σ:=(Fr.refl h).ex ex
def aU.trans{ex:List Nat}{σ σ' Ot:St}(h:aU ex σ σ')(h':aU ex σ' Ot):aU ex σ Ot:=⟨ap h.le h'.le,h'.wf,λb hb hx=>(h'.old b (aL hb h.le) hx).trans (h.old b hb hx)⟩
def aU.to{ex:List Nat}{σ0 σ σ':St}(h:Fr σ0 σ)(he:aU ex σ σ')(hx:∀b∈ex,σ0.aj<=b):Fr σ0 σ':=⟨ap h.le he.le,he.wf,λb hb=>(he.old b (aL hb h.le) λhm=>by grind).trans (h.old b hb)⟩
def aU.to'{ex ex':List Nat}{σ0 σ σ':St}(h:aU ex' σ0 σ)(he:aU ex σ σ')(hx:∀b∈ex,σ0.aj<=b\/b∈ex'):aU ex' σ0 σ':=⟨ap h.le he.le,he.wf,λb hb hn=>(he.old b (aL hb h.le) λhm=>by grind).trans (h.old b hb hn)⟩
def aU.new1{ex:List Nat}{σ:St}{h:Tr Bk}{n:Nat}{k:Bk}(hf:aU ex σ ⟨h,n⟩):aU ex σ ⟨hset h n k,n+1⟩:=
 ⟨Nat.le_succ_of_le hf.le,λb hb=>by
  have hb:n+1<=b:=hb;show hset h n k b=none;rw[ak _ _ _ _ jb];exact hf.wf b (show n<=b by omega),λb hb hx=>by
  show hset h n k b=_;have:σ.aj<=n:=hf.le;rw[ak _ _ _ _ jb];exact hf.old b hb hx⟩
def aU.set1{ex:List Nat}{σ:St}{h:Tr Bk}{n b:Nat}{k:Bk}(hf:aU ex σ ⟨h,n⟩)(hb:σ.aj<=b\/b∈ex)(hb2:b<n):aU ex σ ⟨hset h b k,n⟩:=
 ⟨hf.le,λj hj=>by
  have hj:n<=j:=hj;show hset h b k j=none;rw[ak _ _ _ _ jb];exact hf.wf j hj,λj hj hx=>by
  show hset h b k j=_;rw[ak _ _ _ _ (λe=>by grind)];exact hf.old j hj hx⟩
theorem aU.ld{ex:List Nat}{σ σ':St}(h:WF σ)(hf:aU ex σ σ'){b o n:Nat}{g:Bool}{v:V}(hx:¬b∈ex)(hb:Xe.ld σ.h b o n g=some v):Xe.ld σ'.h b o n g=some v:=by have hlt:=h.dw hb;unfold Xe.ld at hb⊢;rw[hf.old b hlt hx];exact hb
def aU.get{ex:List Nat}{σ σ':St}(h:WF σ)(hf:aU ex σ σ'){b:Nat}{k:Bk}(hx:¬b∈ex)(hb:σ.h b=some k):σ'.h b=some k:=by rw[hf.old b (h.lt hb) hx];exact hb
def uK:Nat:=1000
def dK:Nat:=29000000
def eK:Nat:=29002000
def Zk(D k:Nat)(q:Rat):Prop:=∃a:Int,q=(a:Rat)/(D:Rat)/\a.natAbs<=k*(D*256^uK)
def CS(D:Nat):Prop:=0<D/\D<256^dK
def ani{D k u d s a:Nat}(hD:D<256^d)(hk:k<=256^u)(hs:u+d+u<=s)(ha:a<=k*(D*256^u)):a<256^s:=by have h1:(256:Nat)^(u+d+u)<=256^s:=bA jj hs;refine cT ha (aL ?_ h1);rw[ec,ec,fS];exact cT (bo _ hk) (Nat.mul_lt_mul_of_pos_left (eE hD (dj jj)) (dj jj))
def Sm.int{k:Nat}{a:Int}(hk:k≠0)(h:a.natAbs<256^k):Sm k (a:Rat):=⟨by show(a:Rat).num.natAbs<_;simp_all,by simp_all⟩
section
variable {D k l:Nat} {p q:Rat}
def CS.ne(h:CS D):(D:Rat)≠0:=by have:=h.1;intro e;simp_all
def Zk.int{a:Int}(hD:CS D)(hk:k<=256^uK)(h:a.natAbs<=k*(D*256^uK)):Sm eK (a:Rat):=Sm.int jj (ani hD.2 hk jj h)
def Zk.sz(h:Zk D k q)(hD:CS D)(hk:k<=256^uK):Sz q:=by obtain⟨a,rfl,h2⟩:=h;have h3:Sm dK ((D:Int):Rat):=Sm.int jj hD.2;exact((Zk.int hD hk h2).div h3 hD.ne).mono jj
def Zk.awg(h:Zk D k p)(h':Zk D l q)(hD:CS D)(hk:k<=256^uK)(hl:l<=256^uK)(h0:q≠0):Sz (p/q):=by
 obtain⟨a,rfl,h2⟩:=h;obtain⟨b,rfl,h3⟩:=h';have hb:(b:Rat)≠0:=λe=>h0 kd;have e:(a:Rat)/(D:Rat)/((b:Rat)/(D:Rat))=(a:Rat)/(b:Rat):=by grind
 rw[e];exact((Zk.int hD hk h2).div (Zk.int hD hl h3) hb).mono jj
def Zk.mono(h:Zk D k q)(hkl:k<=l):Zk D l q:=by obtain⟨a,e,h2⟩:=h;exact⟨a,e,ap h2 (bo _ hkl)⟩
theorem Zk.add(h:Zk D k p)(h':Zk D l q):Zk D (k+l) (p+q):=by
 obtain⟨a,rfl,h2⟩:=h;obtain⟨b,rfl,h3⟩:=h';refine⟨a+b,?_,?_⟩
 .rw[Rat.intCast_add];grind
 .rw[ia];omega
def Zk.neg(h:Zk D k p):Zk D k (-p):=by obtain⟨a,rfl,h2⟩:=h;refine⟨-a,?_,jb⟩;grind
def Zk.sub(h:Zk D k p)(h':Zk D l q):Zk D (k+l) (p-q):=by rw[gN];exact h.add h'.neg
theorem Zk.zero:Zk D k 0:=⟨0,by grind,by simp⟩
end
def hdel(h:Tr Bk)(b:Nat):Tr Bk:=h.set b none
theorem Vd(h:Tr Bk)(b j:Nat):hdel h b j=if j=b then none else h j:=Tr.uX h b none j
theorem eX(h:Tr Bk)(b j:Nat)(e:j≠b):hdel h b j=h j:=by grind[Vd]
def asA(h:Tr Bk)(b j o n:Nat)(g:Bool)(e:j≠b):ld (hdel h b) j o n g=ld h j o n g:=by grind[ld,eX]
def anj(o:Option (V×St))(K:V->St->Prop):Prop:=match o with|some (v,σ)=>K v σ|none=>False
@[congr] theorem asB {o o' : Option (V×St)} {K:V→St→Prop} (h:o=o'):anj o K=anj o' K:=by rw [h]
def afd(v:V)(σ:St)(K:V->St->Prop):anj (some (v,σ)) K=K v σ:=rfl
def afe(ty iC bytes:Nat)(s x:V)(σ:St):Option (V×St):=
 match x with
 |.c .aO=>ug ty iC bytes s 0 [] σ
 |.c (.sl b o m _)=>bif Nat.beq m 0 then ug ty iC bytes s 0 [] σ else match σ.h b with
  |some k=>bif k.rd&&(Nat.beq ((k.cells.drop o).take (m*iC)).length (m*iC)&&((k.cells.drop o).take (m*iC)).all B.kn)then ug ty iC bytes s m ((k.cells.drop o).take (m*iC)) σ else none
  |none=>none
 |_=>none
def awh(E:Env)(tm:Tr V)(σ:St)(K:V->St->Prop)(ty iC bytes:Nat)(s x:O):wpOp E (.app ty iC bytes s x) tm σ K=anj (afe ty iC bytes (s.ev tm) (x.ev tm) σ) K:=by rfl
def aff(ty iC bytes:Nat)(s:V)(σ:St):afe ty iC bytes s (.c .aO) σ=ug ty iC bytes s 0 [] σ:=rfl
def aip(ty iC bytes:Nat)(s:V)(b o:Nat)(c:Cap)(σ:St):afe ty iC bytes s (.c (.sl b o 0 c)) σ=ug ty iC bytes s 0 [] σ:=rfl
def acN(ty iC bytes:Nat)(s:V)(b o m:Nat)(c:Cap)(σ:St)(hm:0<m):afe ty iC bytes s (.c (.sl b o m c)) σ=match σ.h b with
  |some k=>bif k.rd&&(Nat.beq ((k.cells.drop o).take (m*iC)).length (m*iC)&&((k.cells.drop o).take (m*iC)).all B.kn)then ug ty iC bytes s m ((k.cells.drop o).take (m*iC)) σ else none
  |none=>none:=by
 grind[afe,SS]
variable {ty iC bytes n m:Nat} {news:List B} {h:Tr Bk} {nx b:Nat}
def SV(h1:0<m)(h2:0<iC)(h3:m*bytes<=140737488355328)(h4:m<=1073741824):ug ty iC bytes (.c .aO) m news ⟨h,nx⟩=some (.c (.sl nx 0 m .opn),⟨hset h nx ⟨news,some (iC,ty)⟩,nx+1⟩):=by grind[ug,SS,IE,xZ,lT]
def apK(ty iC bytes n m:Nat)(news:List B)(b:Nat)(h:Tr Bk)(nx:Nat)(k:Option Bk):Option (V×St):=match k with
 |some ⟨cells,some (e,t)⟩=>bif Nat.blt 0 e&&Nat.beq 0 0&&(Nat.beq e iC&&(Nat.beq t ty&&(Nat.ble ((n+m)*bytes) 140737488355328&&(Nat.ble (n+m) 1073741824&&Nat.ble (n*iC) cells.length))))then
   some (.c (.sl nx 0 (n+m) .opn),⟨hset (hdel h b) nx ⟨cells.take (n*iC)++news,some (iC,ty)⟩,nx+1⟩)else none
 |_=>none
def aiq(h1:0<m):ug ty iC bytes (.c (.sl b 0 n .opn)) m news ⟨h,nx⟩=apK ty iC bytes n m news b h nx (h b):=by
 unfold ug apK;dsimp only;rw[SS (by omega:m≠0)];simp only[fm];split
 .next cells e t hk=>
  rw[hk];dsimp only;cases(Nat.blt 0 e&&Nat.beq 0 0&&(Nat.beq e iC&&(Nat.beq t ty&&(Nat.ble ((n+m)*bytes) 140737488355328&&(Nat.ble (n+m) 1073741824&&Nat.ble (n*iC) cells.length)))))with
  |false=>rfl
  |true=>
   simp only[cj,Tr.put,lT,um]
   rfl
 simp
def XZ{cells:List B}(h2:0<iC)(h3:(n+m)*bytes<=140737488355328)(h4:n+m<=1073741824)(h5:n*iC<=cells.length):apK ty iC bytes n m news b h nx (some ⟨cells,some (iC,ty)⟩)=some (.c (.sl nx 0 (n+m) .opn),⟨hset (hdel h b) nx ⟨cells.take (n*iC)++news,some (iC,ty)⟩,nx+1⟩):=by simp_all[apK,IE,xZ]
def afg(b o n:Nat)(σ:St):ug ty iC bytes (.c (.sl b o n (.ex n))) 0 news σ=some (.c (.sl b o n (.ex n)),σ):=by simp_all[ug,xZ]
def air(b o n:Nat)(σ:St):ug ty iC bytes (.c (.sl b o n .any)) 0 news σ=some (.c (.sl b o n .any),σ):=rfl
def aaR(σ:St)(h1:0<m)(h2:0<iC)(h3:m*bytes<=140737488355328)(h4:m<=1073741824):ug ty iC bytes (.c .aO) m news σ=some (.c (.sl σ.aj 0 m .opn),⟨hset σ.h σ.aj ⟨news,some (iC,ty)⟩,σ.aj+1⟩):=SV h1 h2 h3 h4
def aaS(σ:St):ug ty iC bytes (.c .aO) 0 news σ=some (.c .aO,σ):=rfl
def SX(σ:St)(h1:0<m):ug ty iC bytes (.c (.sl b 0 n .opn)) m news σ=apK ty iC bytes n m news b σ.h σ.aj (σ.h b):=aiq h1
def aaT{σ:St}(hb:σ.h b=some ⟨[],none⟩)(h1:0<m)(h2:0<iC)(h3:m*bytes<=140737488355328)(h4:m<=1073741824):ug ty iC bytes (.c (.sl b 0 0 (.ex 0))) m news σ=some (.c (.sl σ.aj 0 m .opn),⟨hset σ.h σ.aj ⟨news,some (iC,ty)⟩,σ.aj+1⟩):=by unfold ug;dsimp only;rw[SS (by omega:m≠0),hb];simp only[fm,Bk.rd,il,cH,df,IE h2,cK,IE h1,xZ h3,xZ h4,List.length_nil,cR,cj,lT,um,gn,gL,Bool.true_and,cA];rfl
def Fr.oD{σ:St}{h:Tr Bk}{n b:Nat}(hf:Fr σ ⟨h,n⟩)(h1:σ.aj<=b):Fr σ ⟨hdel h b,n⟩:=
 ⟨hf.le,λj hj=>by
  show hdel h b j=none;rw[Vd];split
  .rfl
  .exact hf.wf j hj,λj hj=>by
  show hdel h b j=_;rw[eX _ _ _ jb];exact hf.old j hj⟩
def aU.oD{ex:List Nat}{σ:St}{h:Tr Bk}{n b:Nat}(hf:aU ex σ ⟨h,n⟩)(h1:σ.aj<=b\/b∈ex):aU ex σ ⟨hdel h b,n⟩:=
 ⟨hf.le,λj hj=>by
  show hdel h b j=none;rw[Vd];split
  .rfl
  .exact hf.wf j hj,λj hj hx=>by
  show hdel h b j=_;rw[eX _ _ _ (λe=>by grind)];exact hf.old j hj hx⟩
def aV:Nat->Nat->B
 |0,_=>.aO
 |n+1,b=>.sl b 0 (n+1) .opn
def lU:Nat->Tr Bk->Nat->Tr Bk
 |0,h,_=>h
 |_+1,h,b=>hdel h b
def yQ:Nat->Tr Bk->Nat->Option Bk
 |0,_,_=>none
 |_+1,h,b=>h b
def gF(n:Nat)(G:Nat->List B)(e ty:Nat):Option Bk:=match n with
 |0=>none
 |n+1=>some ⟨bC (n+1) G,some (e,ty)⟩
def LG(G:Nat->List B)(e:Nat):Prop:=∀j,(G j).length=e
def apF(ty iC bytes n m:Nat)(news:List B)(b:Nat)(h:Tr Bk)(nx:Nat)(k:Option Bk):Option (V×St):=match n with
 |0=>ug ty iC bytes (.c .aO) m news ⟨h,nx⟩
 |n+1=>apK ty iC bytes (n+1) m news b h nx k
theorem MI(n b:Nat):(aV n b).kn=true:=by cases n<;>rfl
def X0(n b:Nat):lenV (.c (aV n b))=some (.c (.int .i64 (.ofNat n))):=by cases n<;>rfl
theorem iq(n:Nat)(h:Tr Bk)(b j:Nat)(e:n=0\/j≠b):lU n h b j=h j:=by
 cases n with
 |zero=>rfl
 |succ n=>exact eX _ _ _ jb
def ank(k:Nat)(h:Tr Bk)(b j o n:Nat)(g:Bool)(e:k=0\/j≠b):ld (lU k h b) j o n g=ld h j o n g:=by grind[ld,iq]
theorem wY{n:Nat}{h h':Tr Bk}{b:Nat}(e:n=0\/h' b=h b):yQ n h' b=yQ n h b:=by
 cases n with
 |zero=>rfl
 |succ n=>exact e.resolve_left jb
def ais(n:Nat)(h:Tr Bk)(j b:Nat)(k:Bk)(e:n=0\/b≠j):yQ n (hset h j k) b=yQ n h b:=wY (by grind[ak])
def ait(σ:St)(h1:0<m):ug ty iC bytes (.c (aV n b)) m news σ=apF ty iC bytes n m news b σ.h σ.aj (yQ n σ.h b):=by
 cases n with
 |zero=>rfl
 |succ n=>exact SX σ h1
def asC{G:Nat->List B}(h1:0<m)(h2:0<iC)(h3:(n+m)*bytes<=140737488355328)(h4:n+m<=1073741824)(hG:LG G iC):apF ty iC bytes n m news b h nx (gF n G iC ty)=some (.c (.sl nx 0 (n+m) .opn),⟨hset (lU n h b) nx ⟨bC n G++news,some (iC,ty)⟩,nx+1⟩):=by
 cases n with
 |zero=>
  rw[cK]at h3 h4⊢
  exact SV h1 h2 h3 h4
 |succ n=>
  show apK ty iC bytes (n+1) m news b h nx (some ⟨bC (n+1) G,some (iC,ty)⟩)=_
  rw[XZ h2 h3 h4 (by rw[qw hG];omega),<-qw (n:=n+1) hG,cB]
  rfl
def Fr.lU{σ:St}{h:Tr Bk}{n b k:Nat}(hf:Fr σ ⟨h,n⟩)(h1:k=0\/σ.aj<=b):Fr σ ⟨Xe.lU k h b,n⟩:=by
 cases k with
 |zero=>exact hf
 |succ k=>exact Fr.oD hf jb
def aU.lU{ex:List Nat}{σ:St}{h:Tr Bk}{n b k:Nat}(hf:aU ex σ ⟨h,n⟩)(h1:σ.aj<=b\/b∈ex):aU ex σ ⟨Xe.lU k h b,n⟩:=by
 cases k with
 |zero=>exact hf
 |succ k=>exact aU.oD hf h1
attribute [go_sem] MI X0 iq ank ais ait asC
def Fr.up{σ σ':St}{n:Nat}(hf:Fr σ σ')(hn:σ'.aj<=n):Fr σ ⟨σ'.h,n⟩:=⟨ap hf.le hn,λb hb=>hf.wf b (ap hn hb),hf.old⟩
def Fr.pG{σ:St}{h:Tr Bk}{n n':Nat}{k:Bk}(hf:Fr σ ⟨h,n⟩)(hn:n<n'):Fr σ ⟨hset h n k,n'⟩:=Fr.up (Fr.new1 hf) hn
theorem fr{σ σ':St}(h:Fr σ σ':=by repeat(first|assumption|exact Fr.refl (by assumption)|exact Fr.up (by assumption) kf|exact Fr.up (Fr.refl (by assumption)) kf|refine Fr.set1 ?_ kf kf|refine Fr.lU ?_ kf|refine Fr.oD ?_ kf|refine Fr.pG ?_ kf)):Fr σ σ':=h
def aU.up{ex:List Nat}{σ σ':St}{n:Nat}(hf:aU ex σ σ')(hn:σ'.aj<=n):aU ex σ ⟨σ'.h,n⟩:=⟨ap hf.le hn,λb hb=>hf.wf b (ap hn hb),hf.old⟩
def aU.pG{ex:List Nat}{σ:St}{h:Tr Bk}{n n':Nat}{k:Bk}(hf:aU ex σ ⟨h,n⟩)(hn:n<n'):aU ex σ ⟨hset h n k,n'⟩:=aU.up (aU.new1 hf) hn
def aC.st{E:Env}{f:Nat}{args:List V}{σ:St}{K:V->St->Prop}(P:St->Prop)(h:P σ)(h2:P σ->aC E f args σ K):aC E f args σ K:=h2 h
def bM.st{E:Env}{c:AC}{tm:Tr V}{σ:St}{Q:AX->Tr V->St->Prop}(P:St->Prop)(h:P σ)(h2:P σ->bM E c tm σ Q):bM E c tm σ Q:=h2 h
theorem SY{e:Nat}{l:List B}:∀{n:Nat}{o:Nat}{G:Nat->List B},(∀i,i<n->zO l (o+i*e) e true=some (.agg (G i)))->(l.drop o).take (n*e)=bC n G/\(bC n G).length=n*e/\(bC n G).all B.kn=true
 |0,o,G,_=>by rw[il,cH];exact⟨rfl,rfl,rfl⟩
 |n+1,o,G,h=>by
  have h0:=h 0 jb;rw[il,cA]at h0;unfold zO at h0;dsimp only at h0;cases hx:(Nat.beq ((l.drop o).take e).length e&&((l.drop o).take e).all B.kn)with
  |false=>grind
  |true=>
   rw[hx]at h0
   have e0:(l.drop o).take e=G 0:=by grind
   rw[af]at hx
   have hl:=aw hx.1
   obtain⟨h1,h2,h3⟩:=SY (o:=o+e) (n:=n) (G:=λi=>G (i+1)) λi hi=>by have:=h (i+1) jb;rw[cg,eM (i*e),<-Nat.add_assoc]at this;exact this
   refine⟨?_,?_,?_⟩
   .unfold bC
    rw[<-e0,<-h1,<-js,cg,eM (n*e),List.take_add]
   .unfold bC
    rw[aD,h2,<-e0,hl,cg,eM]
   .unfold bC
    rw[List.all_append,h3,<-e0,hx.2];rfl
def S9{h:Tr Bk}{e b o n:Nat}{G:Nat->List B}(hn:0<n)(hl:∀i,i<n->ld h b (o+i*e) e true=some (.agg (G i))):∃k,h b=some k/\k.rd=true/\(k.cells.drop o).take (n*e)=bC n G/\(bC n G).length=n*e/\(bC n G).all B.kn=true:=by grind[Go.Proofs.Xe.ld,Go.Proofs.Xe.SY]
def afh(n:Nat)(f:Nat->Rat):(cO n f).take (n*3)=cO n f:=by grind[OL]
def afi(n:Nat)(g:Nat->B):(ones n g).take (n*1)=ones n g:=by grind[OM]
def aiu(n:Nat)(f:Nat->Rat):n*3<=(cO n f).length:=by grind[OL]
def anl(h1:0<m)(h2:0<iC)(h3:m*bytes<=140737488355328)(h4:m<=1073741824):ug ty iC bytes (.c (.sl b 0 0 (.ex 0))) m news ⟨hset h b ⟨[],none⟩,nx⟩=some (.c (.sl nx 0 m .opn),⟨hset (hset h b ⟨[],none⟩) nx ⟨news,some (iC,ty)⟩,nx+1⟩):=aaT (aA _ _ _) h1 h2 h3 h4
def aaU:∀{n:Nat}{G:Nat->List B},(∀j,(G j).all B.kn=true)->(bC n G).all B.kn=true
 |0,_,_=>rfl
 |n+1,G,h=>by unfold bC;rw[List.all_append,h 0,aaU λj=>h (j+1)];rfl
def anm(n:Nat)(f:Nat->Rat):(cO n f).all B.kn=true:=aaU λ_=>rfl
def awi:((Int.ofNat 1:Int):Rat)=1:=rfl
def awj:((Int.ofNat 0:Int):Rat)=0:=rfl
attribute [go_sem] anl anm Bool.not_true Bool.not_false awi awj eX asA afd awh aff acN aip air aaR aaS SX XZ afg afh afi OL OM afc
end Go.Proofs.Xe
namespace Go.Proofs.Xe
open Go.RowKit Go.Proofs.Ins
def OO(k:IntKind)(v:V):Option V:=match v with|.c (.int _ n)=>bif Jz k n then some (.c (.int k n))else some (.c (.int k (k.wrap n)))|_=>none
def asD(E:Env)(tm:Tr V)(σ:St)(K:V->St->Prop)(k:IntKind)(x:O):wpOp E (.conv k x) tm σ K=Hu (OO k (x.ev tm)) λv=>K v σ:=iF _ _ _ _ rfl λ_ _ h=>by cases h
def acO{k j:IntKind}{n:Int}(h:k.wrap n=n):OO k (.c (.int j n))=some (.c (.int k n)):=by grind[OO]
def asE(j:IntKind)(a:Nat)(h:a<=9223372036854775807):OO .i64 (.c (.int j (.ofNat a)))=some (.c (.int .i64 (.ofNat a))):=acO (by grind[IntKind.wrap_i64])
def asF(j:IntKind)(a:Nat)(h:a<=18446744073709551615):OO .u64 (.c (.int j (.ofNat a)))=some (.c (.int .u64 (.ofNat a))):=acO (by grind[IntKind.wrap_u64])
def asG(j:IntKind)(a:Nat):OO .u16 (.c (.int j (.ofNat a)))=some (.c (.int .u16 (.ofNat (a%65536)))):=by rfl
theorem Az(op:BinOp)(k:IntKind)(a b:Int):pz op (.c (.int k a)) (.c (.int k b))=Q5 op k a b:=by unfold pz;simp
def awk(k:IntKind)(a b:Nat)(h:0<b):pz .rem (.c (.int k (.ofNat a))) (.c (.int k (.ofNat b)))=some (.c (.int k (.ofNat (a%b)))):=by grind[Az,Q5,Bz]
def asH(k:IntKind)(a b:Nat)(h:0<b)(hw:k.wrap (Int.ofNat (a/b))=Int.ofNat (a/b)):pz .quo (.c (.int k (.ofNat a))) (.c (.int k (.ofNat b)))=some (.c (.int k (.ofNat (a/b)))):=by grind[Az,Q5,Bz]
def wZ(a b m:Nat)(h:a<=m):a/b<=m:=ap (fv _ _) h
def afj(a b:Nat)(h:0<b)(h2:a<=65535):pz .quo (.c (.int .u16 (.ofNat a))) (.c (.int .u16 (.ofNat b)))=some (.c (.int .u16 (.ofNat (a/b)))):=asH _ _ _ h (by have:=wZ a b _ h2;grind[IntKind.wrap_u16])
def acP(k:IntKind)(a b:Nat)(ha:a<2^k.bits)(hb:b<2^k.bits):(BitVec.ofInt k.bits (Int.ofNat a)&&&BitVec.ofInt k.bits (Int.ofNat b)).toNat=a&&&b:=by grind
def afk(a b:Nat)(ha:a<=9223372036854775807)(hb:b<=9223372036854775807):pz .and (.c (.int .i64 (.ofNat a))) (.c (.int .i64 (.ofNat b)))=some (.c (.int .i64 (.ofNat (a&&&b)))):=by rw[Az];unfold Q5 Bz;dsimp only;rw[acP .i64 a b (by show a<18446744073709551616;omega) (by show b<18446744073709551616;omega),IntKind.wrap_i64];grind[Nat.and_le_left]
def afl(a b:Nat)(ha:a<=65535)(hb:b<=65535):pz .and (.c (.int .u16 (.ofNat a))) (.c (.int .u16 (.ofNat b)))=some (.c (.int .u16 (.ofNat (a&&&b)))):=by rw[Az];unfold Q5 Bz;dsimp only;rw[acP .u16 a b (by show a<65536;omega) (by show b<65536;omega),IntKind.wrap_u16];grind[Nat.and_le_left]
def afm(a b:Nat):pz .add (.c (.int .u16 (.ofNat a))) (.c (.int .u16 (.ofNat b)))=some (.c (.int .u16 (.ofNat ((a+b)%65536)))):=by rfl
def afn(a b:Nat):pz .mul (.c (.int .u16 (.ofNat a))) (.c (.int .u16 (.ofNat b)))=some (.c (.int .u16 (.ofNat (a*b%65536)))):=by rfl
def awl(a b:Nat)(h:a*b<=9223372036854775807):pz .mul (.c (.int .i64 (.ofNat a))) (.c (.int .i64 (.ofNat b)))=some (.c (.int .i64 (.ofNat (a*b)))):=by show mkI .i64 (Int.ofNat a*Int.ofNat b)=_;rw[show Int.ofNat a*Int.ofNat b=Int.ofNat (a*b)from rfl,U7 h]
def awm(k j:IntKind)(a c:Nat):pz .shr (.c (.int k (.ofNat a))) (.c (.int j (.ofNat c)))=some (.c (.int k (.ofNat (a/2^min c k.bits)))):=by
 have e:pz .shr (.c (.int k (.ofNat a))) (.c (.int j (.ofNat c)))=aar .shr k (.ofNat a) (.ofNat c):=by
  unfold pz;dsimp only;by_cases h:k=j
  .subst h;rw[be rfl];rfl
  grind
 rw[e];unfold aar;grind
def aiv:IntKind.bits .i64=64:=rfl
def aiw:IntKind.bits .u16=16:=rfl
def aix:IntKind.bits .u64=64:=rfl
def asI(k:IntKind)(a b:Int):pz .eql (.c (.int k a)) (.c (.int k b))=some (.c (.bool (decide (a=b)))):=by rw[Az];rfl
def asJ(k:IntKind)(a b:Int):pz .neq (.c (.int k a)) (.c (.int k b))=some (.c (.bool (!decide (a=b)))):=by rw[Az];rfl
attribute [go_sem] asD asE asF asG awk afj afk afl afm afn awl awm aiv aiw aix asI asJ
end Go.Proofs.Xe
namespace Go.Proofs.Ins
open Go.RowKit
def Own(w:World)(b sz n:Nat)(F:Nat->List Value):Prop:=
 ∃c T,w.heap[b]?=some (.cells c T (0,0))/\c.size=n*sz/\∀i j,i<n->j<sz->c[i*sz+j]?=(F i)[j]?
def aN(F:Nat->List Value)(i:Nat)(x:List Value)(k:Nat):List Value:=if k=i then x else F k
theorem aK(F:Nat->List Value)(i:Nat)(x:List Value):aN F i x i=x:=ae rfl
def mO.mono{w:World}{base base':Nat}{T:TypeId}{sz:Nat}{v:Value}{n:Nat}{F:Nat->List Value}(h:mO w base T sz v n F)(hb:base'<=base):mO w base' T sz v n F:=by
 obtain⟨⟨h1,h2⟩,h3⟩:=h;refine⟨⟨h1,?_⟩,h3⟩;rcases h2 with h2|⟨g,cap,cur,hv,hg,r⟩
 .exact .inl h2
 .exact .inr ⟨g,cap,cur,hv,ap hb hg,r⟩
def ix{α:Type}[Inhabited α](l:List α)(i:Nat):α:=l.getD i default
theorem dS{α:Type}[Inhabited α]{l:List α}{i:Nat}(h:i<l.length):ix l i=l[i]:=by grind[ix]
def Tc{α:Type}[Inhabited α](l:List α)(x:α)(i:Nat):ix (l++[x]) i=if i<l.length then ix l i else if i=l.length then x else default:=by grind[ix]
theorem mP{α:Type}[Inhabited α]{l:List α}{i:Nat}(h:i<l.length):ix l i∈l:=by grind[dS]
def Ve{α:Type}[Inhabited α]{l:List α}{i k:Nat}(h:i<k):ix (l.take k) i=ix l i:=by grind[ix]
theorem bU{α:Type}[Inhabited α]{l:List α}{k:Nat}(h:k<l.length):l.take (k+1)=l.take k++[ix l k]:=by grind[dS,List.take_add_one]
structure C5 where
 h:Int
 r:Int
 a:R3
instance:Inhabited C5:=⟨⟨0,0,default⟩⟩
def C5.c(x:C5):List Value:=[.int .i64 x.h,.int .i64 x.r,.bool x.a.n,.string x.a.s,.string x.a.d]
structure yg where
 k:Int
 b:Bool
 a:R3
instance:Inhabited yg:=⟨⟨0,false,default⟩⟩
def yg.c(x:yg):List Value:=[.int .i64 x.k,.bool x.b,.bool x.a.n,.string x.a.s,.string x.a.d]
structure Lg where
 e:Int
 k:Int
instance:Inhabited Lg:=⟨⟨0,0⟩⟩
def Lg.c(x:Lg):List Value:=[.int .i64 x.e,.int .i64 x.k]
abbrev IG:=List yg
abbrev fC:=List IG
structure vM where
 m:R3
 c:List C5
 a:List fC
instance:Inhabited vM:=⟨⟨default,[],[]⟩⟩
structure qj where
 w:R3
 l:List Lg
instance:Inhabited qj:=⟨⟨default,[]⟩⟩
structure fD where
 e:List vM
 d:List qj
instance:Inhabited fD:=⟨⟨[],[]⟩⟩
def Sl(w:World)(p:Nat->Prop)(sz:Nat)(v:Value)(n:Nat)(G:Nat->List Value):Prop:=
 ∃a cap,v=.slice a n cap/\n<=cap/\cap<=9223372036854775807/\(n=0\/∃b off,a=some ⟨b,off,none⟩/\p b/\b<w.heap.size/\Gq w b off sz n G)/\∀i,i<n->(G i).length=sz
theorem Sl.nil(w:World)(p:Nat->Prop)(sz:Nat)(G:Nat->List Value):Sl w p sz (.slice none 0 0) 0 G:=⟨none,0,rfl,jp,jb,.inl rfl,λi hi=>jb⟩
def Sl.mono{w:World}{p q:Nat->Prop}{sz:Nat}{v:Value}{n:Nat}{G:Nat->List Value}(h:Sl w p sz v n G)(hp:∀b,p b->q b):Sl w q sz v n G:=by obtain⟨a,cap,hv,h1,h2,h3,h4⟩:=h;refine⟨a,cap,hv,h1,h2,?_,h4⟩;grind
def Sl.keep{w w':World}{p:Nat->Prop}{sz:Nat}{v:Value}{n:Nat}{G:Nat->List Value}(h:Sl w p sz v n G)(hb:∀b,p b->b<w.heap.size->w'.heap[b]?=w.heap[b]?):Sl w' p sz v n G:=by
 obtain⟨a,cap,hv,h1,h2,h3,h4⟩:=h;refine⟨a,cap,hv,h1,h2,?_,h4⟩;rcases h3 with h3|⟨b,off,ha,hpb,hl,r⟩
 .omega
 .have e:=hb b hpb hl;refine .inr ⟨b,off,ha,hpb,?_,λi j hi hj=>?_⟩
  .grind
  .rw[World.cell?_of_block (w:=w) (a:=⟨b,off+i*sz+j,none⟩) e];exact r i j hi hj
def Sl.congr{w:World}{p:Nat->Prop}{sz:Nat}{v:Value}{n:Nat}{G G':Nat->List Value}(h:Sl w p sz v n G)(hg:∀i,i<n->G i=G' i):Sl w p sz v n G':=by
 obtain⟨a,cap,hv,h1,h2,h3,h4⟩:=h;refine⟨a,cap,hv,h1,h2,?_,λi hi=>by grind⟩;rcases h3 with h3|⟨b,off,ha,hpb,hl,r⟩
 .omega
 .exact .inr ⟨b,off,ha,hpb,hl,λi j hi hj=>by rw[<-hg i hi];exact r i j hi hj⟩
def RL{α:Type}[Inhabited α](w:World)(p:Nat->Prop)(sz:Nat)(Q:List Value->α->Prop)(v:Value)(l:List α):Prop:=
 ∃G,Sl w p sz v l.length G/\∀i,i<l.length->Q (G i) (ix l i)
theorem RL.imp{α:Type}[Inhabited α]{w w':World}{p q:Nat->Prop}{sz:Nat}{Q Q':List Value->α->Prop}{v:Value}{l:List α}(h:RL w p sz Q v l)(hp:∀b,p b->q b)
  (hb:∀b,p b->b<w.heap.size->w'.heap[b]?=w.heap[b]?) (hQ:∀c x,Q c x->Q' c x):RL w' q sz Q' v l:=by
 obtain⟨G,h1,h2⟩:=h
 exact⟨G,(h1.keep hb).mono hp,λi hi=>hQ _ _ (h2 i hi)⟩
def QV{α:Type}(c:α->List Value)(cs:List Value)(x:α):Prop:=cs=c x
def RL.plain{α:Type}[Inhabited α]{w:World}{p:Nat->Prop}{sz:Nat}{c:α->List Value}{v:Value}{l:List α}(h:RL w p sz (QV c) v l):Sl w p sz v l.length (λi=>c (ix l i)):=by obtain⟨G,h1,h2⟩:=h;exact h1.congr h2
def DI(w:World)(p:Nat->Prop)(v:Value)(l:List yg):Prop:=RL w p 5 (QV yg.c) v l
def acQ(w:World)(p:Nat->Prop)(cs:List Value)(t:IG):Prop:=∃v,cs=[v]/\DI w p v t
def yh(w:World)(p:Nat->Prop)(v:Value)(l:fC):Prop:=RL w p 1 (acQ w p) v l
structure Keeps(p:Nat->Prop)(w w':World):Prop where
 block:∀b,p b->b<w.heap.size->w'.heap[b]?=w.heap[b]?
def Keeps.of_below{p:Nat->Prop}{w w':World}(h:Below w.heap.size w w'):Keeps p w w':=⟨λb _ hb=>h.block b hb⟩
section
variable {w w' : World} {p q:Nat→Prop} {v:Value} {cs:List Value}
def DI.keep{l:List yg}(h:DI w p v l)(k:Keeps p w w')(hp:∀b,p b->q b):DI w' q v l:=RL.imp h hp k.block λ_ _ h=>h
def acQ.keep{t:IG}(h:acQ w p cs t)(k:Keeps p w w')(hp:∀b,p b->q b):acQ w' q cs t:=by obtain⟨v,e,h⟩:=h;exact⟨v,e,h.keep k hp⟩
def yh.keep{l:fC}(h:yh w p v l)(k:Keeps p w w')(hp:∀b,p b->q b):yh w' q v l:=RL.imp h hp k.block λ_ _ h=>h.keep k hp
def DI.on{l:List yg}(h:DI w p v l)(k:Below w.heap.size w w'):DI w' p v l:=h.keep (.of_below k) λ_ h=>h
def yh.on{l:fC}(h:yh w p v l)(k:Below w.heap.size w w'):yh w' p v l:=h.keep (.of_below k) λ_ h=>h
end
def Sl.get{w:World}{p:Nat->Prop}{sz:Nat}{a:Option Addr}{n cap:Nat}{G:Nat->List Value}(h:Sl w p sz (.slice a n cap) n G)(hn:0<n):
  ∃b off,a=some ⟨b,off,none⟩/\p b/\b<w.heap.size/\Gq w b off sz n G:=by
 obtain⟨a',cap',hv,h1,h2,h3,h4⟩:=h
 grind
def Sl.form{w:World}{p:Nat->Prop}{sz:Nat}{v:Value}{n:Nat}{G:Nat->List Value}(h:Sl w p sz v n G):∃a cap,v=.slice a n cap/\n<=cap/\cap<=9223372036854775807:=by obtain⟨a,cap,hv,h1,h2,_⟩:=h;grind
def mO.sl{w:World}{base:Nat}{T:TypeId}{sz:Nat}{v:Value}{n:Nat}{F:Nat->List Value}(h:mO w base T sz v n F):Sl w (λb=>base<=b) sz v n F:=by
 rcases h.form with⟨rfl,rfl⟩|⟨g,cap,rfl,hb,hn,hm,hl,hr⟩
 .grind[Sl.nil]
 .exact⟨_,cap,rfl,hn,hm,.inr ⟨g,0,rfl,hb,hl,hr⟩,h.2⟩
def Sl.cellAt{w w':World}{p:Nat->Prop}{sz n:Nat}{a:Option Addr}{cap:Nat}{G:Nat->List Value}(h:Sl w p sz (.slice a n cap) n G){b off:Nat}(ha:a=some ⟨b,off,none⟩)(k:Below w.heap.size w w'){i j:Nat}(hi:i<n)(hj:j<sz):
  w'.cell? ⟨b,off+i*sz+j,none⟩=(G i)[j]?:=by
 obtain⟨b',off',ha',-,hl,hr⟩:=h.get jb
 rw[ha]at ha'
 simp only[bh,Addr.mk.injEq,and_true]at ha'
 obtain⟨rfl,rfl⟩:=ha'
 exact(hr.below k hl) i j hi hj
end Go.Proofs.Ins
namespace Go.Proofs.Xe
open Go.RowKit Go.Proofs.Ins
def zY(N:Nat):Value->B
 |.int k n=>.int k n
 |.bool b=>.bool b
 |.string s=>.str s
 |.pointer (some a)=>if a.spot=none/\a.block<N then .ptr a.block a.off else .any
 |.pointer none=>.UK
 |.slice (some a) n K=>if K<=9223372036854775807 then(if a.spot=none/\a.block<N/\n<=K then .sl a.block a.off n .any else if n=0 then .sl 0 0 0 .any else .any)else .any
 |.slice none 0 0=>.aO
 |_=>.any
def Ph.id(N:Nat):Ph:=λb=>if b<N then some (b,0)else none
theorem II(N:Nat)(v:Value)(h:(zY N v).kn=true):RB (Ph.id N) (zY N v) v:=by
 unfold zY at h⊢;split at h<;>try rfl
 .next a=>
  split at h
  .next hc=>
   rw[ae hc];obtain⟨b,o,s⟩:=a;obtain⟨h1,h2⟩:=hc;dsimp only at h1 h2;subst h1;exact⟨(b,0),ae h2,rfl⟩
  .cases h
 .next a n K=>
  split at h
  .next hK=>
   rw[ae hK];split at h
   .next hc=>
    rw[ae hc];obtain⟨b,o,s⟩:=a;obtain⟨h1,h2,h3⟩:=hc;dsimp only at h1 h2;subst h1;exact .inl ⟨(b,0),K,ae h2,rfl,h3,hK,trivial⟩
   .next hc=>
    rw[ab hc];split at h
    .next h0=>
     subst h0;rw[ae rfl];exact .inr ⟨rfl,rfl,a,K,rfl,hK⟩
    .cases h
  .cases h
 .cases h
def St.of(w:World):St:=⟨.fn λb=>match w.heap[b]? with|some (.cells cs _ _)=>some ⟨cs.toList.map (zY w.heap.size),some (0,1)⟩|_=>none,w.heap.size⟩
def WF.of(w:World):WF (St.of w):=λb hb=>by have hb:w.heap.size<=b:=hb;show(match w.heap[b]? with|some (.cells cs _ _)=>some _|_=>none)=none;grind
def Rel.of(w:World):Rel w.heap.size w (Ph.id w.heap.size) (St.of w) w where
 n0:=jp
 bel:=Below.refl _ _
 inj:=λb b' p p' h1 _ _ hN _ _=>by grind[Ph.id]
 lo:=λb p h=>by grind[Ph.id]
 fz:=λb k p hk _ _=>by
  have hk:(match w.heap[b]? with|some (.cells cs _ _)=>some (⟨cs.toList.map (zY w.heap.size),some (0,1)⟩:Bk)|_=>none)=some k:=hk;split at hk
  .cases hk;exact⟨rfl,rfl⟩
  grind
 blk:=λb k p hk hp=>by
  have hp':p.1=b/\b<w.heap.size:=by grind[Ph.id]
  have hk:(match w.heap[b]? with|some (.cells cs _ _)=>some (⟨cs.toList.map (zY w.heap.size),some (0,1)⟩:Bk)|_=>none)=some k:=hk;split at hk
  .next cs T z hcs=>
   cases hk;refine .inr (.inr ⟨rfl,rfl,λj x hj hx=>?_⟩);grind[Go.Proofs.Xe.II,Go.World.cell?]
  grind
 aj:=λb hb=>by have hb:w.heap.size<=b:=hb;refine⟨ab jb,?_⟩;show(match w.heap[b]? with|some (.cells cs _ _)=>some _|_=>none)=none;grind
def awn{w:World}{b o n:Nat}{l:List Value}(hn:l.length=n)(h0:0<n)(h:∀j v,l[j]?=some v->w.cell? ⟨b,o+j,none⟩=some v)(hk:∀v∈l,(zY w.heap.size v).kn=true):
  ld (St.of w).h b o n true=some (.agg (l.map (zY w.heap.size))):=by
 have hc:∃cs T z,w.heap[b]?=some (.cells cs T z)/\(cs.toList.drop o).take n=l:=by
  match l,hn with
  |v::l',hn=>
   have h1:=h 0 v rfl
   unfold World.cell? at h1
   dsimp only at h1
   split at h1
   .next cs T z e=>
    refine⟨cs,T,z,e,?_⟩
    apply List.ext_getElem?
    grind[Go.World.cell?]
   grind
  |[],hn=>simp at hn;omega
 obtain⟨cs,T,z,e,hl⟩:=hc
 have hg:(St.of w).h b=some ⟨cs.toList.map (zY w.heap.size),some (0,1)⟩:=by show(match w.heap[b]? with|some (.cells cs _ _)=>some (⟨cs.toList.map (zY w.heap.size),some (0,1)⟩:Bk)|_=>none)=_;rw[e]
 unfold ld
 rw[hg]
 show(bif true then _ else _)=_
 grind[zO,List.map_drop,List.map_take,XQ]
def acR(N:Nat)(a:Addr)(n K:Nat):zY N (.slice (some a) n K)=if K<=9223372036854775807 then(if a.spot=none/\a.block<N/\n<=K then .sl a.block a.off n .any else if n=0 then .sl 0 0 0 .any else .any)else .any:=rfl
def HL.of{w:World}{a:Option Addr}{n cap e:Nat}{F:Nat->List Value}(h:aer w a n e F)(hf:(a=none/\n=0/\cap=0)\/∃x,a=some x)(hn:n<=cap)(hc:cap<=9223372036854775807)(he:0<e)(hF:∀i,i<n->(F i).length=e)(hk:∀i,i<n->∀v∈F i,(zY w.heap.size v).kn=true):
  HL (St.of w).h e (zY w.heap.size (.slice a n cap)) n λi=>(F i).map (zY w.heap.size):=by
 rcases hf with⟨rfl,rfl,rfl⟩|⟨x,rfl⟩
 .exact .inl ⟨rfl,rfl⟩
 .by_cases h0:n=0
  .subst h0
   rw[acR,ae hc]
   split
   .exact .inr ⟨_,_,_,rfl,λi hi=>jb⟩
   .rw[ae rfl];exact .inr ⟨_,_,_,rfl,λi hi=>jb⟩
  .rcases h with h|⟨b,off,e1,hb,hr⟩
   .omega
   .cases e1
    rw[acR,ae hc,ae ⟨rfl,hb,hn⟩]
    refine .inr ⟨_,_,_,rfl,λi hi=>awn (hF i hi) he (λj v hj=>?_) (hk i hi)⟩
    have hlt:j<e:=by grind
    have:=hr i j hi hlt
    grind
end Go.Proofs.Xe
end
