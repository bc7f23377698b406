import Derived.Test.YtodnohicahohdaaGreatDoorYh11
set_option linter.all false
noncomputable section
namespace Go.Proofs.Xe
open Go.RowKit Go.Proofs.Ins
def bf:Nat->(Nat->List B)->List B
 |0,_=>[]
 |n+1,G=>G 0++bf n λi=>G (i+1)
def Zj{e:Nat}:∀{n:Nat}{G:Nat->List B}{i:Nat},(∀j,(G j).length=e)->i<n->∃r,(bf n G).drop (i*e)=G i++r
 |0,_,_,_,h=>jb
 |n+1,G,0,_,_=>⟨bf n λi=>G (i+1),by rw[gT];rfl⟩
 |n+1,G,i+1,hG,h=>by obtain⟨r,hr⟩:=Zj (G:=λi=>G (i+1)) (i:=i) (λj=>hG (j+1)) (by omega:i<n);refine⟨r,?_⟩;show(G 0++bf n λi=>G (i+1)).drop _=_;rw[cf,dC,<-hG 0,List.drop_length_add_append,hG 0];exact hr
def AQ{e n i k m:Nat}{G:Nat->List B}(g:Bool)(hG:∀j,(G j).length=e)(h:i<n)(hk:k+m<=e)(hm:0<m):zT (bf n G) (i*e+k) m g=zT (G i) k m g:=by
 obtain⟨r,hr⟩:=Zj hG h;have hd:(bf n G).drop (i*e+k)=(G i).drop k++r:=by rw[<-it,hr,List.drop_append_of_le_length kd]
 have hl:((G i).drop k).length=e-k:=by grind
 unfold zT;grind
def akg:∀(p:List B) (l:List B) (o:Nat) (vs:List B),yc (p++l) (p.length+o) vs=match yc l o vs with|some r=>some (p++r)|none=>none
 |[],l,o,vs=>by grind
 |x::p,l,o,vs=>by rw[fh,bA,show p.length+1+o=(p.length+o)+1 by omega,yc,akg p l o vs];cases yc l o vs<;>rfl
def aej:∀(p:List B) (l:List B) (o:Nat) (vs:List B),o+vs.length<=p.length->yc (p++l) o vs=match yc p o vs with|some r=>some (r++l)|none=>none
 |p,l,0,vs,h=>by grind[yc,nV]
 |[],l,o+1,vs,h=>by simp at h
 |x::p,l,o+1,vs,h=>by rw[fh,yc,yc,aej p l o vs (by simp only[bA]at h;omega)];cases yc p o vs<;>rfl
def je(G:Nat->List B)(i:Nat)(r:List B):Nat->List B:=λj=>if j=i then r else G j
def yP{e k:Nat}{vs:List B}:∀{n i:Nat}{G:Nat->List B},(∀j,(G j).length=e)->i<n->k+vs.length<=e->yc (bf n G) (i*e+k) vs=match yc (G i) k vs with|some r=>some (bf n (je G i r))|none=>none
 |0,_,_,_,h,_=>jb
 |n+1,0,G,hG,_,hk=>by rw[gT,cx];show yc (G 0++_) k vs=_;rw[aej _ _ _ _ kd];rfl
 |n+1,i+1,G,hG,h,hk=>by
  show yc (G 0++bf n λi=>G (i+1)) _ vs=_;rw[show(i+1)*e+k=(G 0).length+(i*e+k) by rw[hG,cf];omega,akg,yP (λj=>hG (j+1)) jb hk];cases yc (G (i+1)) k vs with
  |none=>rfl
  |some r=>
   show some _=some _
   congr 1
   show G 0++_=je G (i+1) r 0++_
   congr 2
   funext j
   unfold je
   simp only[Nat.add_right_cancel_iff]
theorem bC:∀{n:Nat}{G H:Nat->List B},(∀i,i<n->G i=H i)->bf n G=bf n H
 |0,_,_,_=>rfl
 |n+1,G,H,h=>by unfold bf;rw[h 0 jb,bC λi hi=>h (i+1) jb]
def Oe(z:List B):∀n,rep z n=bf n λ_=>z
 |0=>rfl
 |n+1=>by unfold rep bf;rw[Oe z n]
theorem jA:∀(n:Nat) (G:Nat->List B) (r:List B),bf n G++r=bf (n+1) (je G n r)
 |0,G,r=>by grind[bf,je]
 |n+1,G,r=>by rw[bf,gd,jA n _ r];show _=je G (n+1) r 0++bf (n+1) _;congr 2;funext j;unfold je;simp only[Nat.add_right_cancel_iff]
theorem lS{e:Nat}:∀{n:Nat}{G:Nat->List B},(∀j,(G j).length=e)->(bf n G).length=n*e
 |0,_,_=>by simp[bf]
 |n+1,G,h=>by rw[bf,az,h,lS λj=>h (j+1),cf];omega
def rM{h:Tr Bk}{b o n:Nat}{cs:List B}(e:ld h b o n true=some (.agg cs))(k m:Nat)(g:Bool)(hk:k+m<=n)(hm:0<m):ld h b (o+k) m g=zT cs k m g:=by
 unfold ld at e⊢;cases hb:h b with
 |none=>grind
 |some bk=>
  rw[hb]at e
  dsimp only at e⊢
  cases hr:bk.rd with
  |false=>grind
  |true=>
   rw[hr]at e
   simp only[bB]at e⊢
   unfold zT at e
   dsimp only at e
   cases hx:(Nat.beq ((bk.cells.drop o).take n).length n&&((bk.cells.drop o).take n).all B.kn)with
   |false=>grind
   |true=>
    rw[hx]at e
    cases e
    rw[af]at hx
    have hl:=aq hx.1
    rw[cN]at hl
    unfold zT
    cases g with
    |true=>
     grind[List.drop_take,List.drop_drop]
    |false=>
     dsimp only
     rw[List.drop_take,it]
     have hd:n-k=(n-k-1)+1:=jb
     grind
def Gi{h:Tr Bk}{b o n:Nat}{cs:List B}(e:ld h b o n true=some (.agg cs))(m:Nat)(g:Bool)(hk:m<=n)(hm:0<m):ld h b o m g=zT cs 0 m g:=rM e 0 m g jb hm
def bY(q:Rat):List B:=(rK q)
def dh(n:Nat)(f:Nat->Rat):List B:=bf n λi=>bY (f i)
def aO{α:Type}(f:Nat->α)(i:Nat)(q:α):Nat->α:=λj=>if j=i then q else f j
def WC(n:Nat)(f:Nat->Rat)(i:Nat)(h:i<n):zT (dh n f) (i*3) 3 true=some (.agg (rK (f i))):=by unfold dh;have:=AQ (e:=3) (k:=0) (m:=3) (G:=λi=>bY (f i)) true (λ_=>rfl) h jj jj;rw[cy]at this;rw[this];rfl
def apm(n:Nat)(f:Nat->Rat)(i:Nat)(q:Rat)(h:i<n):yc (dh n f) (i*3) (rK q)=some (dh n (aO f i q)):=by unfold dh;have:=yP (e:=3) (k:=0) (vs:=bY q) (G:=λi=>bY (f i)) (λ_=>rfl) h (cL 3);rw[cy]at this;show yc _ _ (bY q)=_;rw[this];show some _=some _;congr 2;funext j;unfold je aO;split<;>rfl
theorem dX{n:Nat}{f g:Nat->Rat}(h:∀i,i<n->f i=g i):dh n f=dh n g:=bC λi hi=>by grind
def akh(n:Nat):rep (rK 0) n=dh n λ_=>0:=Oe _ n
theorem KX (n:Nat) (f:Nat→Rat) (q:Rat):dh n f ++ [.bool (rn q),.str (rs q),.str (rd q)]=dh (n+1) (aO f n q):=by
 unfold dh
 rw [show [B.bool (rn q),.str (rs q),.str (rd q)]=bY q from rfl,jA]
 congr 1
 grind[je,aO]
theorem Qh(n:Nat)(f:Nat->Rat):(dh n f).length=n*3:=lS λ_=>rfl
def ones(n:Nat)(g:Nat->B):List B:=bf n λi=>[g i]
def WE(n:Nat)(g:Nat->B)(i:Nat)(h:i<n):zT (ones n g) (i*1) 1 false=bif (g i).kn then some (.c (g i))else none:=by unfold ones;have:=AQ (e:=1) (k:=0) (m:=1) (G:=λi=>[g i]) false (λ_=>rfl) h jj jj;rw[cy]at this;rw[this];rfl
def WG(n:Nat)(g:Nat->B)(i:Nat)(x:B)(h:i<n):yc (ones n g) (i*1) [x]=some (ones n (aO g i x)):=by unfold ones;have:=yP (e:=1) (k:=0) (vs:=[x]) (G:=λi=>[g i]) (λ_=>rfl) h (cL 1);rw[cy]at this;rw[this];show some _=some _;congr 2;grind[je,aO]
def dF{n:Nat}{f g:Nat->B}(h:∀i,i<n->f i=g i):ones n f=ones n g:=bC λi hi=>by grind
def Zl(x:B)(n:Nat):rep [x] n=ones n λ_=>x:=Oe _ n
theorem Qi(n:Nat)(g:Nat->B):(ones n g).length=n*1:=lS λ_=>rfl
theorem aN{α:Type}(f:Nat->α)(i:Nat)(q:α):aO f i q i=q:=ab rfl
theorem aS{α:Type}(f:Nat->α)(i j:Nat)(q:α)(h:j≠i):aO f i q j=f j:=ae h
def Jr:Option V->Nat->Option Nat
 |none,d=>some d
 |some v,_=>En v
def aki(b:Option O)(tm:Tr V)(d:Nat):YG b tm d=Jr (b.map (·.ev tm)) d:=by cases b<;>rfl
def DV(iP:Nat)(x:V)(lo hi mx:Option V):Option V:=
 match x with
 |.c (.sl b o n c)=>
  match Jr lo 0,Jr hi n with
  |some l,some h=>bif Nat.ble l h&&Nat.ble h n then
    match mx with
    |none=>(match c with
     |.ex k=>bif Nat.blt l k then some (.c (.sl b (o+l*iP) (h-l) (.ex (k-l))))else some (.c (.sl b o 0 .any))
     |.opn=>bif Nat.beq l 0 then some (.c (.sl b o h .opn))else bif Nat.blt l n then some (.c (.sl b (o+l*iP) (h-l) .any))else some (.c (.sl b o 0 .any))
     |.any=>bif Nat.blt l n then some (.c (.sl b (o+l*iP) (h-l) .any))else some (.c (.sl b o 0 .any)))
    |some y=>match En y with
     |some q=>bif Nat.ble h q&&Nat.ble q n then bif Nat.beq l 0 then some (.c (.sl b o h (bif Nat.beq n 0 then .any else .ex q)))else none else none
     |none=>none
   else none
  |_,_=>none
 |.c .aQ=>match Jr lo 0,Jr hi 0 with
  |some 0,some 0=>(match mx with|none=>some (.c .aQ)|some y=>match En y with|some 0=>some (.c .aQ)|_=>none)
  |_,_=>none
 |_=>none
def Zm(iP:Nat)(x:O)(lo hi mx:Option O)(tm:Tr V):Py iP x lo hi mx tm=DV iP (x.ev tm) (lo.map (·.ev tm)) (hi.map (·.ev tm)) (mx.map (·.ev tm)):=by unfold Py DV;simp only[jr,aki];cases mx<;>rfl
def apn(E:Env)(tm:Tr V)(J:St)(K:V->St->Prop)(iP:Nat)(x:O)(lo hi mx:Option O):wpOp E (.slice iP x lo hi mx) tm J K=D9 (DV iP (x.ev tm) (lo.map (·.ev tm)) (hi.map (·.ev tm)) (mx.map (·.ev tm))) λv=>K v J:=by rw[fP _ _ _ _ (by rfl) λ_ _ h=>by cases h];show D9 (Py iP x lo hi mx tm) _=_;rw[Zm]
def agV:B->Prop
 |.sl _ _ n (.ex k)=>n<=k
 |_=>True
def akj{v:B}{n h:Nat}(hc:agV v)(hv:(n=0/\v=.aQ)\/∃b o c,v=.sl b o n c/\0<n)(hh:h<=n)(iP:Nat):∃v',DV iP (.c v) none (some (jN h)) none=some (.c v')/\agV v'/\((n=0/\v'=.aQ)\/∃b o c c',v=.sl b o n c/\v'=.sl b o h c'):=by
 rcases hv with⟨rfl,rfl⟩|⟨b,o,c,rfl,hn⟩
 .have:h=0:=jb;subst this;exact⟨.aQ,rfl,trivial,.inl ⟨rfl,rfl⟩⟩
 .cases c with
  |ex k=>
   have hc:n<=k:=hc
   refine⟨.sl b o h (.ex k),?_,by show h<=k;omega,.inr ⟨b,o,_,_,rfl,rfl⟩⟩
   grind[DV,Jr,En,nV,DF]
  |opn=>
   refine⟨.sl b o h .opn,?_,trivial,.inr ⟨b,o,_,_,rfl,rfl⟩⟩
   grind[DV,Jr,En,nV,Ze]
  |any=>
   refine⟨.sl b o h .any,?_,trivial,.inr ⟨b,o,_,_,rfl,rfl⟩⟩
   grind[DV,Jr,En,nV,DF]
attribute [go_sem] apn Option.map_some Option.map_none
attribute [go_sem] WC apm akh WE WG Zl
structure gY(ex:List Nat)(J J':St):Prop where
 le:J.aj<=J'.aj
 wf:WF J'
 old:∀b,b<J.aj->¬b∈ex->J'.h b=J.h b
def Fr.ex{J J':St}(h:Fr J J')(ex:List Nat):gY ex J J':=⟨h.le,h.wf,λb hb _=>h.old b hb⟩
theorem gY.refl{J:St}{ex:List Nat}(h:WF J):gY ex J J:=(Fr.refl h).ex ex
def gY.trans{ex:List Nat}{J J' PV:St}(h:gY ex J J')(h':gY ex J' PV):gY ex J PV:=⟨ar h.le h'.le,h'.wf,λb hb hx=>(h'.old b (aE hb h.le) hx).trans (h.old b hb hx)⟩
def gY.to{ex:List Nat}{σ0 J J':St}(h:Fr σ0 J)(he:gY ex J J')(hx:∀b∈ex,σ0.aj<=b):Fr σ0 J':=⟨ar h.le he.le,he.wf,λb hb=>(he.old b (aE hb h.le) λhm=>by grind).trans (h.old b hb)⟩
def gY.to'{ex ex':List Nat}{σ0 J J':St}(h:gY ex' σ0 J)(he:gY ex J J')(hx:∀b∈ex,σ0.aj<=b\/b∈ex'):gY ex' σ0 J':=⟨ar h.le he.le,he.wf,λb hb hn=>(he.old b (aE hb h.le) λhm=>by grind).trans (h.old b hb hn)⟩
def gY.new1{ex:List Nat}{J:St}{h:Tr Bk}{n:Nat}{k:Bk}(hf:gY ex J ⟨h,n⟩):gY ex J ⟨hset h n k,n+1⟩:=
 ⟨Nat.le_succ_of_le hf.le,λb hb=>by
  have hb:n+1<=b:=hb;show hset h n k b=none;rw[au _ _ _ _ jb];exact hf.wf b (show n<=b by omega),λb hb hx=>by
  show hset h n k b=_;have:J.aj<=n:=hf.le;rw[au _ _ _ _ jb];exact hf.old b hb hx⟩
def gY.set1{ex:List Nat}{J:St}{h:Tr Bk}{n b:Nat}{k:Bk}(hf:gY ex J ⟨h,n⟩)(hb:J.aj<=b\/b∈ex)(hb2:b<n):gY ex J ⟨hset h b k,n⟩:=
 ⟨hf.le,λj hj=>by
  have hj:n<=j:=hj;show hset h b k j=none;rw[au _ _ _ _ jb];exact hf.wf j hj,λj hj hx=>by
  show hset h b k j=_;rw[au _ _ _ _ (λe=>by grind)];exact hf.old j hj hx⟩
theorem gY.ld{ex:List Nat}{J J':St}(h:WF J)(hf:gY ex J J'){b o n:Nat}{g:Bool}{v:V}(hx:¬b∈ex)(hb:Xe.ld J.h b o n g=some v):Xe.ld J'.h b o n g=some v:=by have hlt:=h.cZ hb;unfold Xe.ld at hb⊢;rw[hf.old b hlt hx];exact hb
def gY.get{ex:List Nat}{J J':St}(h:WF J)(hf:gY ex J J'){b:Nat}{k:Bk}(hx:¬b∈ex)(hb:J.h b=some k):J'.h b=some k:=by rw[hf.old b (h.lt hb) hx];exact hb
def uK:Nat:=1000
def dK:Nat:=29000000
def eK:Nat:=29002000
def Zk(D k:Nat)(q:Rat):Prop:=∃a:Int,q=(a:Rat)/(D:Rat)/\a.natAbs<=k*(D*256^uK)
def DW(D:Nat):Prop:=0<D/\D<256^dK
def apo{D k u d s a:Nat}(hD:D<256^d)(hk:k<=256^u)(hs:u+d+u<=s)(ha:a<=k*(D*256^u)):a<256^s:=by have h1:(256:Nat)^(u+d+u)<=256^s:=bN jj hs;refine cT ha (aE ?_ h1);rw[dx,dx,fq];exact cT (bq _ hk) (Nat.mul_lt_mul_of_pos_left (eZ hD (du jj)) (du jj))
def Sm.int{k:Nat}{a:Int}(hk:k≠0)(h:a.natAbs<256^k):Sm k (a:Rat):=⟨by show(a:Rat).num.natAbs<_;simp_all,by simp_all⟩
section
variable {D k l:Nat} {p q:Rat}
def DW.ne(h:DW D):(D:Rat)≠0:=by have:=h.1;intro e;simp_all
def Zk.int{a:Int}(hD:DW D)(hk:k<=256^uK)(h:a.natAbs<=k*(D*256^uK)):Sm eK (a:Rat):=Sm.int jj (apo hD.2 hk jj h)
def Zk.sz(h:Zk D k q)(hD:DW D)(hk:k<=256^uK):Sz q:=by obtain⟨a,rfl,h2⟩:=h;have h3:Sm dK ((D:Int):Rat):=Sm.int jj hD.2;exact((Zk.int hD hk h2).div h3 hD.ne).mono jj
def Zk.ayX(h:Zk D k p)(h':Zk D l q)(hD:DW D)(hk:k<=256^uK)(hl:l<=256^uK)(h0:q≠0):Sz (p/q):=by
 obtain⟨a,rfl,h2⟩:=h;obtain⟨b,rfl,h3⟩:=h';have hb:(b:Rat)≠0:=λe=>h0 kd;have e:(a:Rat)/(D:Rat)/((b:Rat)/(D:Rat))=(a:Rat)/(b:Rat):=by grind
 rw[e];exact((Zk.int hD hk h2).div (Zk.int hD hl h3) hb).mono jj
def Zk.mono(h:Zk D k q)(hkl:k<=l):Zk D l q:=by obtain⟨a,e,h2⟩:=h;exact⟨a,e,ar h2 (bq _ hkl)⟩
theorem Zk.add(h:Zk D k p)(h':Zk D l q):Zk D (k+l) (p+q):=by
 obtain⟨a,rfl,h2⟩:=h;obtain⟨b,rfl,h3⟩:=h';refine⟨a+b,?_,?_⟩
 .rw[Rat.intCast_add];grind
 .rw[gO];omega
def Zk.neg(h:Zk D k p):Zk D k (-p):=by obtain⟨a,rfl,h2⟩:=h;refine⟨-a,?_,jb⟩;grind
def Zk.sub(h:Zk D k p)(h':Zk D l q):Zk D (k+l) (p-q):=by rw[gx];exact h.add h'.neg
theorem Zk.zero:Zk D k 0:=⟨0,by grind,by simp⟩
end
def hdel(h:Tr Bk)(b:Nat):Tr Bk:=h.set b none
theorem WH(h:Tr Bk)(b j:Nat):hdel h b j=if j=b then none else h j:=Tr.wo h b none j
theorem fE(h:Tr Bk)(b j:Nat)(e:j≠b):hdel h b j=h j:=by grind[WH]
def au3(h:Tr Bk)(b j o n:Nat)(g:Bool)(e:j≠b):ld (hdel h b) j o n g=ld h j o n g:=by grind[ld,fE]
def apq(o:Option (V×St))(K:V->St->Prop):Prop:=match o with|some (v,J)=>K v J|none=>False
@[congr] theorem au4 {o o' : Option (V×St)} {K:V→St→Prop} (h:o=o'):apq o K=apq o' K:=by rw [h]
def agW(v:V)(J:St)(K:V->St->Prop):apq (some (v,J)) K=K v J:=rfl
def agX(ty iP bytes:Nat)(s x:V)(J:St):Option (V×St):=
 match x with
 |.c .aQ=>sH ty iP bytes s 0 [] J
 |.c (.sl b o m _)=>bif Nat.beq m 0 then sH ty iP bytes s 0 [] J else match J.h b with
  |some k=>bif k.rd&&(Nat.beq ((k.cells.drop o).take (m*iP)).length (m*iP)&&((k.cells.drop o).take (m*iP)).all B.kn)then sH ty iP bytes s m ((k.cells.drop o).take (m*iP)) J else none
  |none=>none
 |_=>none
def ayY(E:Env)(tm:Tr V)(J:St)(K:V->St->Prop)(ty iP bytes:Nat)(s x:O):wpOp E (.app ty iP bytes s x) tm J K=apq (agX ty iP bytes (s.ev tm) (x.ev tm) J) K:=by rfl
def agY(ty iP bytes:Nat)(s:V)(J:St):agX ty iP bytes s (.c .aQ) J=sH ty iP bytes s 0 [] J:=rfl
def akk(ty iP bytes:Nat)(s:V)(b o:Nat)(c:Cap)(J:St):agX ty iP bytes s (.c (.sl b o 0 c)) J=sH ty iP bytes s 0 [] J:=rfl
def aek(ty iP bytes:Nat)(s:V)(b o m:Nat)(c:Cap)(J:St)(hm:0<m):agX ty iP bytes s (.c (.sl b o m c)) J=match J.h b with
  |some k=>bif k.rd&&(Nat.beq ((k.cells.drop o).take (m*iP)).length (m*iP)&&((k.cells.drop o).take (m*iP)).all B.kn)then sH ty iP bytes s m ((k.cells.drop o).take (m*iP)) J else none
  |none=>none:=by
 grind[agX,Uu]
variable {ty iP bytes n m:Nat} {news:List B} {h:Tr Bk} {nx b:Nat}
def Uw(h1:0<m)(h2:0<iP)(h3:m*bytes<=140737488355328)(h4:m<=1073741824):sH ty iP bytes (.c .aQ) m news ⟨h,nx⟩=some (.c (.sl nx 0 m .opn),⟨hset h nx ⟨news,some (iP,ty)⟩,nx+1⟩):=by grind[sH,Uu,DF,nV,lZ]
def apK(ty iP bytes n m:Nat)(news:List B)(b:Nat)(h:Tr Bk)(nx:Nat)(k:Option Bk):Option (V×St):=match k with
 |some ⟨cells,some (e,t)⟩=>bif Nat.blt 0 e&&Nat.beq 0 0&&(Nat.beq e iP&&(Nat.beq t ty&&(Nat.ble ((n+m)*bytes) 140737488355328&&(Nat.ble (n+m) 1073741824&&Nat.ble (n*iP) cells.length))))then
   some (.c (.sl nx 0 (n+m) .opn),⟨hset (hdel h b) nx ⟨cells.take (n*iP)++news,some (iP,ty)⟩,nx+1⟩)else none
 |_=>none
def akl(h1:0<m):sH ty iP bytes (.c (.sl b 0 n .opn)) m news ⟨h,nx⟩=apK ty iP bytes n m news b h nx (h b):=by
 unfold sH apK;dsimp only;rw[Uu (by omega:m≠0)];simp only[dT];split
 .next cells e t hk=>
  rw[hk];dsimp only;cases(Nat.blt 0 e&&Nat.beq 0 0&&(Nat.beq e iP&&(Nat.beq t ty&&(Nat.ble ((n+m)*bytes) 140737488355328&&(Nat.ble (n+m) 1073741824&&Nat.ble (n*iP) cells.length)))))with
  |false=>rfl
  |true=>
   simp only[bB,Tr.put,lZ,jr]
   rfl
 simp
def Zn{cells:List B}(h2:0<iP)(h3:(n+m)*bytes<=140737488355328)(h4:n+m<=1073741824)(h5:n*iP<=cells.length):apK ty iP bytes n m news b h nx (some ⟨cells,some (iP,ty)⟩)=some (.c (.sl nx 0 (n+m) .opn),⟨hset (hdel h b) nx ⟨cells.take (n*iP)++news,some (iP,ty)⟩,nx+1⟩):=by simp_all[apK,DF,nV]
def agZ(b o n:Nat)(J:St):sH ty iP bytes (.c (.sl b o n (.ex n))) 0 news J=some (.c (.sl b o n (.ex n)),J):=by simp_all[sH,nV]
def akm(b o n:Nat)(J:St):sH ty iP bytes (.c (.sl b o n .any)) 0 news J=some (.c (.sl b o n .any),J):=rfl
def acr(J:St)(h1:0<m)(h2:0<iP)(h3:m*bytes<=140737488355328)(h4:m<=1073741824):sH ty iP bytes (.c .aQ) m news J=some (.c (.sl J.aj 0 m .opn),⟨hset J.h J.aj ⟨news,some (iP,ty)⟩,J.aj+1⟩):=Uw h1 h2 h3 h4
def acs(J:St):sH ty iP bytes (.c .aQ) 0 news J=some (.c .aQ,J):=rfl
def Ux(J:St)(h1:0<m):sH ty iP bytes (.c (.sl b 0 n .opn)) m news J=apK ty iP bytes n m news b J.h J.aj (J.h b):=akl h1
def acu{J:St}(hb:J.h b=some ⟨[],none⟩)(h1:0<m)(h2:0<iP)(h3:m*bytes<=140737488355328)(h4:m<=1073741824):sH ty iP bytes (.c (.sl b 0 0 (.ex 0))) m news J=some (.c (.sl J.aj 0 m .opn),⟨hset J.h J.aj ⟨news,some (iP,ty)⟩,J.aj+1⟩):=by unfold sH;dsimp only;rw[Uu (by omega:m≠0),hb];simp only[dT,Bk.rd,gT,cA,cY,DF h2,cx,DF h1,nV h3,nV h4,List.length_nil,cG,bB,lZ,jr,gS,fW,Bool.true_and,cy];rfl
def Fr.akn{J:St}{h:Tr Bk}{n b:Nat}(hf:Fr J ⟨h,n⟩)(h1:J.aj<=b):Fr J ⟨hdel h b,n⟩:=
 ⟨hf.le,λj hj=>by
  show hdel h b j=none;rw[WH];split
  .rfl
  .exact hf.wf j hj,λj hj=>by
  show hdel h b j=_;rw[fE _ _ _ jb];exact hf.old j hj⟩
def gY.akn{ex:List Nat}{J:St}{h:Tr Bk}{n b:Nat}(hf:gY ex J ⟨h,n⟩)(h1:J.aj<=b\/b∈ex):gY ex J ⟨hdel h b,n⟩:=
 ⟨hf.le,λj hj=>by
  show hdel h b j=none;rw[WH];split
  .rfl
  .exact hf.wf j hj,λj hj hx=>by
  show hdel h b j=_;rw[fE _ _ _ (λe=>by grind)];exact hf.old j hj hx⟩
def aX:Nat->Nat->B
 |0,_=>.aQ
 |n+1,b=>.sl b 0 (n+1) .opn
def Qj:Nat->Tr Bk->Nat->Tr Bk
 |0,h,_=>h
 |_+1,h,b=>hdel h b
def zW:Nat->Tr Bk->Nat->Option Bk
 |0,_,_=>none
 |_+1,h,b=>h b
def gF(n:Nat)(G:Nat->List B)(e ty:Nat):Option Bk:=match n with
 |0=>none
 |n+1=>some ⟨bf (n+1) G,some (e,ty)⟩
def LG(G:Nat->List B)(e:Nat):Prop:=∀j,(G j).length=e
def apF(ty iP bytes n m:Nat)(news:List B)(b:Nat)(h:Tr Bk)(nx:Nat)(k:Option Bk):Option (V×St):=match n with
 |0=>sH ty iP bytes (.c .aQ) m news ⟨h,nx⟩
 |n+1=>apK ty iP bytes (n+1) m news b h nx k
theorem Og(n b:Nat):(aX n b).kn=true:=by cases n<;>rfl
def Zo(n b:Nat):lenV (.c (aX n b))=some (jN n):=by cases n<;>rfl
theorem iJ(n:Nat)(h:Tr Bk)(b j:Nat)(e:n=0\/j≠b):Qj n h b j=h j:=by
 cases n with
 |zero=>rfl
 |succ n=>exact fE _ _ _ jb
def apr(k:Nat)(h:Tr Bk)(b j o n:Nat)(g:Bool)(e:k=0\/j≠b):ld (Qj k h b) j o n g=ld h j o n g:=by grind[ld,iJ]
theorem yB{n:Nat}{h h':Tr Bk}{b:Nat}(e:n=0\/h' b=h b):zW n h' b=zW n h b:=by
 cases n with
 |zero=>rfl
 |succ n=>exact e.resolve_left jb
def ako(n:Nat)(h:Tr Bk)(j b:Nat)(k:Bk)(e:n=0\/b≠j):zW n (hset h j k) b=zW n h b:=yB (by grind[au])
def akp(J:St)(h1:0<m):sH ty iP bytes (.c (aX n b)) m news J=apF ty iP bytes n m news b J.h J.aj (zW n J.h b):=by
 cases n with
 |zero=>rfl
 |succ n=>exact Ux J h1
def au5{G:Nat->List B}(h1:0<m)(h2:0<iP)(h3:(n+m)*bytes<=140737488355328)(h4:n+m<=1073741824)(hG:LG G iP):apF ty iP bytes n m news b h nx (gF n G iP ty)=some (.c (.sl nx 0 (n+m) .opn),⟨hset (Qj n h b) nx ⟨bf n G++news,some (iP,ty)⟩,nx+1⟩):=by
 cases n with
 |zero=>
  rw[cx]at h3 h4⊢
  exact Uw h1 h2 h3 h4
 |succ n=>
  show apK ty iP bytes (n+1) m news b h nx (some ⟨bf (n+1) G,some (iP,ty)⟩)=_
  rw[Zn h2 h3 h4 (by rw[lS hG];omega),<-lS (n:=n+1) hG,cj]
  rfl
def Fr.Qj{J:St}{h:Tr Bk}{n b k:Nat}(hf:Fr J ⟨h,n⟩)(h1:k=0\/J.aj<=b):Fr J ⟨Xe.Qj k h b,n⟩:=by
 cases k with
 |zero=>exact hf
 |succ k=>exact Fr.akn hf jb
def gY.Qj{ex:List Nat}{J:St}{h:Tr Bk}{n b k:Nat}(hf:gY ex J ⟨h,n⟩)(h1:J.aj<=b\/b∈ex):gY ex J ⟨Xe.Qj k h b,n⟩:=by
 cases k with
 |zero=>exact hf
 |succ k=>exact gY.akn hf h1
attribute [go_sem] Og Zo iJ apr ako akp au5
def Fr.up{J J':St}{n:Nat}(hf:Fr J J')(hn:J'.aj<=n):Fr J ⟨J'.h,n⟩:=⟨ar hf.le hn,λb hb=>hf.wf b (ar hn hb),hf.old⟩
def Fr.au6{J:St}{h:Tr Bk}{n n':Nat}{k:Bk}(hf:Fr J ⟨h,n⟩)(hn:n<n'):Fr J ⟨hset h n k,n'⟩:=Fr.up (Fr.new1 hf) hn
theorem fr{J J':St}(h:Fr J J':=by repeat(first|assumption|exact Fr.refl (by assumption)|exact Fr.up (by assumption) kg|exact Fr.up (Fr.refl (by assumption)) kg|refine Fr.set1 ?_ kg kg|refine Fr.Qj ?_ kg|refine Fr.akn ?_ kg|refine Fr.au6 ?_ kg)):Fr J J':=h
def gY.up{ex:List Nat}{J J':St}{n:Nat}(hf:gY ex J J')(hn:J'.aj<=n):gY ex J ⟨J'.h,n⟩:=⟨ar hf.le hn,λb hb=>hf.wf b (ar hn hb),hf.old⟩
def gY.au6{ex:List Nat}{J:St}{h:Tr Bk}{n n':Nat}{k:Bk}(hf:gY ex J ⟨h,n⟩)(hn:n<n'):gY ex J ⟨hset h n k,n'⟩:=gY.up (gY.new1 hf) hn
def fe{ex:List Nat}{J J':St}(h:gY ex J J':=by repeat(first|assumption|exact gY.refl (by assumption)|exact gY.up (by assumption) kg|exact gY.up (gY.refl (by assumption)) kg|refine gY.set1 ?_ kh kg|refine gY.Qj ?_ kh|refine gY.akn ?_ kh|refine gY.au6 ?_ kg)):gY ex J J':=h
def aB.st{E:Env}{f:Nat}{args:List V}{J:St}{K:V->St->Prop}(P:St->Prop)(h:P J)(h2:P J->aB E f args J K):aB E f args J K:=h2 h
def bI.st{E:Env}{c:AC}{tm:Tr V}{J:St}{Q:AX->Tr V->St->Prop}(P:St->Prop)(h:P J)(h2:P J->bI E c tm J Q):bI E c tm J Q:=h2 h
theorem Uy{e:Nat}{l:List B}:∀{n:Nat}{o:Nat}{G:Nat->List B},(∀i,i<n->zT l (o+i*e) e true=some (.agg (G i)))->(l.drop o).take (n*e)=bf n G/\(bf n G).length=n*e/\(bf n G).all B.kn=true
 |0,o,G,_=>by rw[gT,cA];exact⟨rfl,rfl,rfl⟩
 |n+1,o,G,h=>by
  have h0:=h 0 jb;rw[gT,cy]at h0;unfold zT at h0;dsimp only at h0;cases hx:(Nat.beq ((l.drop o).take e).length e&&((l.drop o).take e).all B.kn)with
  |false=>grind
  |true=>
   rw[hx]at h0
   have e0:(l.drop o).take e=G 0:=by grind
   rw[af]at hx
   have hl:=aq hx.1
   obtain⟨h1,h2,h3⟩:=Uy (o:=o+e) (n:=n) (G:=λi=>G (i+1)) λi hi=>by have:=h (i+1) jb;rw[cf,dC (i*e),<-Nat.add_assoc]at this;exact this
   refine⟨?_,?_,?_⟩
   .unfold bf
    rw[<-e0,<-h1,<-it,cf,dC (n*e),List.take_add]
   .unfold bf
    rw[az,h2,<-e0,hl,cf,dC]
   .unfold bf
    rw[List.all_append,h3,<-e0,hx.2];rfl
def Uz{h:Tr Bk}{e b o n:Nat}{G:Nat->List B}(hn:0<n)(hl:∀i,i<n->ld h b (o+i*e) e true=some (.agg (G i))):∃k,h b=some k/\k.rd=true/\(k.cells.drop o).take (n*e)=bf n G/\(bf n G).length=n*e/\(bf n G).all B.kn=true:=by grind[Go.Proofs.Xe.ld,Go.Proofs.Xe.Uy]
def ag0(n:Nat)(f:Nat->Rat):(dh n f).take (n*3)=dh n f:=by grind[Qh]
def ag1(n:Nat)(g:Nat->B):(ones n g).take (n*1)=ones n g:=by grind[Qi]
def Qk(n:Nat)(f:Nat->Rat):n*3<=(dh n f).length:=by grind[Qh]
def aps(h1:0<m)(h2:0<iP)(h3:m*bytes<=140737488355328)(h4:m<=1073741824):sH ty iP bytes (.c (.sl b 0 0 (.ex 0))) m news ⟨hset h b ⟨[],none⟩,nx⟩=some (.c (.sl nx 0 m .opn),⟨hset (hset h b ⟨[],none⟩) nx ⟨news,some (iP,ty)⟩,nx+1⟩):=acu (aA _ _ _) h1 h2 h3 h4
def acv:∀{n:Nat}{G:Nat->List B},(∀j,(G j).all B.kn=true)->(bf n G).all B.kn=true
 |0,_,_=>rfl
 |n+1,G,h=>by unfold bf;rw[List.all_append,h 0,acv λj=>h (j+1)];rfl
def apt(n:Nat)(f:Nat->Rat):(dh n f).all B.kn=true:=acv λ_=>rfl
def ayZ:((Int.ofNat 1:Int):Rat)=1:=rfl
def ay0:((Int.ofNat 0:Int):Rat)=0:=rfl
attribute [go_sem] aps apt Bool.not_true Bool.not_false ayZ ay0 fE au3 agW ayY agY aek akk akm acr acs Ux Zn agZ ag0 ag1 Qh Qi KX
end Go.Proofs.Xe
namespace Go.Proofs.Xe
open Go.RowKit Go.Proofs.Ins
def H8(k:IntKind)(v:V):Option V:=match v with|.c (.int _ n)=>bif Ih k n then some (.c (.int k n))else some (.c (.int k (k.wrap n)))|_=>none
def au7(E:Env)(tm:Tr V)(J:St)(K:V->St->Prop)(k:IntKind)(x:O):wpOp E (.conv k x) tm J K=D9 (H8 k (x.ev tm)) λv=>K v J:=fP _ _ _ _ rfl λ_ _ h=>by cases h
def ael{k j:IntKind}{n:Int}(h:k.wrap n=n):H8 k (.c (.int j n))=some (.c (.int k n)):=by grind[H8]
def au8(j:IntKind)(a:Nat)(h:a<=9223372036854775807):H8 .i64 (.c (.int j (.ofNat a)))=some (jN a):=ael (by grind[IntKind.wrap_i64])
def au9(j:IntKind)(a:Nat)(h:a<=18446744073709551615):H8 .u64 (.c (.int j (.ofNat a)))=some (.c (.int .u64 (.ofNat a))):=ael (by grind[IntKind.wrap_u64])
def ava(j:IntKind)(a:Nat):H8 .u16 (.c (.int j (.ofNat a)))=some (.c (.int .u16 (.ofNat (a%65536)))):=by rfl
theorem nX(op:BinOp)(k:IntKind)(a b:Int):jk op (.c (.int k a)) (.c (.int k b))=KH op k a b:=by unfold jk;simp
def ay1(k:IntKind)(a b:Nat)(h:0<b):jk .rem (.c (.int k (.ofNat a))) (.c (.int k (.ofNat b)))=some (.c (.int k (.ofNat (a%b)))):=by grind[nX,KH,zU]
def acw(k:IntKind)(a b:Nat)(h:0<b)(hw:k.wrap (Int.ofNat (a/b))=Int.ofNat (a/b)):jk .quo (.c (.int k (.ofNat a))) (.c (.int k (.ofNat b)))=some (.c (.int k (.ofNat (a/b)))):=by grind[nX,KH,zU]
def wC(a b m:Nat)(h:a<=m):a/b<=m:=ar (fk _ _) h
def ag2(a b:Nat)(h:0<b)(h2:a<=9223372036854775807):jk .quo (jN a) (jN b)=some (jN (a/b)):=acw _ _ _ h (by have:=wC a b _ h2;grind[IntKind.wrap_i64])
def ag3(a b:Nat)(h:0<b)(h2:a<=65535):jk .quo (.c (.int .u16 (.ofNat a))) (.c (.int .u16 (.ofNat b)))=some (.c (.int .u16 (.ofNat (a/b)))):=acw _ _ _ h (by have:=wC a b _ h2;grind[IntKind.wrap_u16])
def aem(k:IntKind)(a b:Nat)(ha:a<2^k.bits)(hb:b<2^k.bits):(BitVec.ofInt k.bits (Int.ofNat a)&&&BitVec.ofInt k.bits (Int.ofNat b)).toNat=a&&&b:=by grind
def Ql(k:IntKind)(a b:Nat)(ha:a<2^k.bits)(hb:b<2^k.bits):(BitVec.ofInt k.bits (Int.ofNat a)|||BitVec.ofInt k.bits (Int.ofNat b)).toNat=a|||b:=by grind
def ag4(a b:Nat)(ha:a<=9223372036854775807)(hb:b<=9223372036854775807):jk .and (jN a) (jN b)=some (jN (a&&&b)):=by rw[nX];unfold KH zU;dsimp only;rw[aem .i64 a b (by show a<18446744073709551616;omega) (by show b<18446744073709551616;omega),IntKind.wrap_i64];grind[Nat.and_le_left]
def ag5(a b:Nat):jk .add (.c (.int .u16 (.ofNat a))) (.c (.int .u16 (.ofNat b)))=some (.c (.int .u16 (.ofNat ((a+b)%65536)))):=by rfl
def ag6(a b:Nat):jk .mul (.c (.int .u16 (.ofNat a))) (.c (.int .u16 (.ofNat b)))=some (.c (.int .u16 (.ofNat (a*b%65536)))):=by rfl
def ay2(a b:Nat)(h:a*b<=9223372036854775807):jk .mul (jN a) (jN b)=some (jN (a*b)):=by show mkI .i64 (Int.ofNat a*Int.ofNat b)=_;rw[show Int.ofNat a*Int.ofNat b=Int.ofNat (a*b)from rfl,WA h]
def ay3(k j:IntKind)(a c:Nat):jk .shr (.c (.int k (.ofNat a))) (.c (.int j (.ofNat c)))=some (.c (.int k (.ofNat (a/2^min c k.bits)))):=by
 have e:jk .shr (.c (.int k (.ofNat a))) (.c (.int j (.ofNat c)))=V4 .shr k (.ofNat a) (.ofNat c):=by
  unfold jk;dsimp only;by_cases h:k=j
  .subst h;rw[aw rfl];rfl
  grind
 rw[e];unfold V4;grind
def akq:IntKind.bits .i64=64:=rfl
def akr:IntKind.bits .u16=16:=rfl
def aks:IntKind.bits .u64=64:=rfl
def avb(k:IntKind)(a b:Int):jk .eql (.c (.int k a)) (.c (.int k b))=some (.c (.bool (decide (a=b)))):=by rw[nX];rfl
def avc(k:IntKind)(a b:Int):jk .neq (.c (.int k a)) (.c (.int k b))=some (.c (.bool (!decide (a=b)))):=by rw[nX];rfl
attribute [go_sem] au7 au8 au9 ava ay1 ag2 ag3 ag4 ag5 ag6 ay2 ay3 akq akr aks avb avc
end Go.Proofs.Xe
namespace Go.Proofs.Ins
open Go.RowKit
def Own(w:World)(b sz n:Nat)(F:Nat->List Value):Prop:=
 ∃c T,w.heap[b]?=some (.cells c T (0,0))/\c.size=n*sz/\∀i j,i<n->j<sz->c[i*sz+j]?=(F i)[j]?
def aO(F:Nat->List Value)(i:Nat)(x:List Value)(k:Nat):List Value:=if k=i then x else F k
theorem aN(F:Nat->List Value)(i:Nat)(x:List Value):aO F i x i=x:=ab rfl
def ng.mono{w:World}{base base':Nat}{T:TypeId}{sz:Nat}{v:Value}{n:Nat}{F:Nat->List Value}(h:ng w base T sz v n F)(hb:base'<=base):ng w base' T sz v n F:=by
 obtain⟨⟨h1,h2⟩,h3⟩:=h;refine⟨⟨h1,?_⟩,h3⟩;rcases h2 with h2|⟨g,cap,cur,hv,hg,r⟩
 .exact .inl h2
 .exact .inr ⟨g,cap,cur,hv,ar hb hg,r⟩
def ix{α:Type}[Inhabited α](l:List α)(i:Nat):α:=l.getD i default
theorem dY{α:Type}[Inhabited α]{l:List α}{i:Nat}(h:i<l.length):ix l i=l[i]:=by grind[ix]
def UA{α:Type}[Inhabited α](l:List α)(x:α)(i:Nat):ix (l++[x]) i=if i<l.length then ix l i else if i=l.length then x else default:=by grind[ix]
theorem l7{α:Type}[Inhabited α]{l:List α}{i:Nat}(h:i<l.length):ix l i∈l:=by grind[dY]
def WI{α:Type}[Inhabited α]{l:List α}{i k:Nat}(h:i<k):ix (l.take k) i=ix l i:=by grind[ix]
theorem bJ{α:Type}[Inhabited α]{l:List α}{k:Nat}(h:k<l.length):l.take (k+1)=l.take k++[ix l k]:=by grind[dY,List.take_add_one]
structure C5 where
 h:Int
 r:Int
 a:R3
instance:Inhabited C5:=⟨⟨0,0,default⟩⟩
def C5.c(x:C5):List Value:=[.int .i64 x.h,.int .i64 x.r,.bool x.a.n,.string x.a.s,.string x.a.d]
structure yQ where
 k:Int
 b:Bool
 a:R3
instance:Inhabited yQ:=⟨⟨0,false,default⟩⟩
def yQ.c(x:yQ):List Value:=[.int .i64 x.k,.bool x.b,.bool x.a.n,.string x.a.s,.string x.a.d]
structure Lg where
 e:Int
 k:Int
instance:Inhabited Lg:=⟨⟨0,0⟩⟩
def Lg.c(x:Lg):List Value:=[.int .i64 x.e,.int .i64 x.k]
abbrev Js:=List yQ
abbrev fD:=List Js
structure yg where
 m:R3
 c:List C5
 a:List fD
instance:Inhabited yg:=⟨⟨default,[],[]⟩⟩
structure oM where
 w:R3
 l:List Lg
instance:Inhabited oM:=⟨⟨default,[]⟩⟩
structure dV where
 e:List yg
 d:List oM
instance:Inhabited dV:=⟨⟨[],[]⟩⟩
def Sl(w:World)(p:Nat->Prop)(sz:Nat)(v:Value)(n:Nat)(G:Nat->List Value):Prop:=
 ∃a cap,v=.slice a n cap/\n<=cap/\cap<=9223372036854775807/\(n=0\/∃b off,a=some ⟨b,off,none⟩/\p b/\b<w.heap.size/\Ig w b off sz n G)/\∀i,i<n->(G i).length=sz
theorem Sl.nil(w:World)(p:Nat->Prop)(sz:Nat)(G:Nat->List Value):Sl w p sz (.slice none 0 0) 0 G:=⟨none,0,rfl,jp,jb,.inl rfl,λi hi=>jb⟩
def Sl.mono{w:World}{p q:Nat->Prop}{sz:Nat}{v:Value}{n:Nat}{G:Nat->List Value}(h:Sl w p sz v n G)(hp:∀b,p b->q b):Sl w q sz v n G:=by obtain⟨a,cap,hv,h1,h2,h3,h4⟩:=h;refine⟨a,cap,hv,h1,h2,?_,h4⟩;grind
def Sl.keep{w w':World}{p:Nat->Prop}{sz:Nat}{v:Value}{n:Nat}{G:Nat->List Value}(h:Sl w p sz v n G)(hb:∀b,p b->b<w.heap.size->w'.heap[b]?=w.heap[b]?):Sl w' p sz v n G:=by
 obtain⟨a,cap,hv,h1,h2,h3,h4⟩:=h;refine⟨a,cap,hv,h1,h2,?_,h4⟩;rcases h3 with h3|⟨b,off,ha,hpb,hl,r⟩
 .omega
 .have e:=hb b hpb hl;refine .inr ⟨b,off,ha,hpb,?_,λi j hi hj=>?_⟩
  .grind
  .rw[World.cell?_of_block (w:=w) (a:=⟨b,off+i*sz+j,none⟩) e];exact r i j hi hj
def Sl.congr{w:World}{p:Nat->Prop}{sz:Nat}{v:Value}{n:Nat}{G G':Nat->List Value}(h:Sl w p sz v n G)(hg:∀i,i<n->G i=G' i):Sl w p sz v n G':=by
 obtain⟨a,cap,hv,h1,h2,h3,h4⟩:=h;refine⟨a,cap,hv,h1,h2,?_,λi hi=>by grind⟩;rcases h3 with h3|⟨b,off,ha,hpb,hl,r⟩
 .omega
 .exact .inr ⟨b,off,ha,hpb,hl,λi j hi hj=>by rw[<-hg i hi];exact r i j hi hj⟩
def RL{α:Type}[Inhabited α](w:World)(p:Nat->Prop)(sz:Nat)(Q:List Value->α->Prop)(v:Value)(l:List α):Prop:=
 ∃G,Sl w p sz v l.length G/\∀i,i<l.length->Q (G i) (ix l i)
theorem RL.imp{α:Type}[Inhabited α]{w w':World}{p q:Nat->Prop}{sz:Nat}{Q Q':List Value->α->Prop}{v:Value}{l:List α}(h:RL w p sz Q v l)(hp:∀b,p b->q b)
  (hb:∀b,p b->b<w.heap.size->w'.heap[b]?=w.heap[b]?) (hQ:∀c x,Q c x->Q' c x):RL w' q sz Q' v l:=by
 obtain⟨G,h1,h2⟩:=h
 exact⟨G,(h1.keep hb).mono hp,λi hi=>hQ _ _ (h2 i hi)⟩
def QV{α:Type}(c:α->List Value)(cs:List Value)(x:α):Prop:=cs=c x
def RL.plain{α:Type}[Inhabited α]{w:World}{p:Nat->Prop}{sz:Nat}{c:α->List Value}{v:Value}{l:List α}(h:RL w p sz (QV c) v l):Sl w p sz v l.length (λi=>c (ix l i)):=by obtain⟨G,h1,h2⟩:=h;exact h1.congr h2
def EC(w:World)(p:Nat->Prop)(v:Value)(l:List yQ):Prop:=RL w p 5 (QV yQ.c) v l
def aen(w:World)(p:Nat->Prop)(cs:List Value)(t:Js):Prop:=∃v,cs=[v]/\EC w p v t
def yR(w:World)(p:Nat->Prop)(v:Value)(l:fD):Prop:=RL w p 1 (aen w p) v l
structure Keeps(p:Nat->Prop)(w w':World):Prop where
 block:∀b,p b->b<w.heap.size->w'.heap[b]?=w.heap[b]?
def Keeps.of_below{p:Nat->Prop}{w w':World}(h:Below w.heap.size w w'):Keeps p w w':=⟨λb _ hb=>h.block b hb⟩
section
variable {w w' : World} {p q:Nat→Prop} {v:Value} {cs:List Value}
def EC.keep{l:List yQ}(h:EC w p v l)(k:Keeps p w w')(hp:∀b,p b->q b):EC w' q v l:=RL.imp h hp k.block λ_ _ h=>h
def aen.keep{t:Js}(h:aen w p cs t)(k:Keeps p w w')(hp:∀b,p b->q b):aen w' q cs t:=by obtain⟨v,e,h⟩:=h;exact⟨v,e,h.keep k hp⟩
def yR.keep{l:fD}(h:yR w p v l)(k:Keeps p w w')(hp:∀b,p b->q b):yR w' q v l:=RL.imp h hp k.block λ_ _ h=>h.keep k hp
def EC.on{l:List yQ}(h:EC w p v l)(k:Below w.heap.size w w'):EC w' p v l:=h.keep (.of_below k) λ_ h=>h
def yR.on{l:fD}(h:yR w p v l)(k:Below w.heap.size w w'):yR w' p v l:=h.keep (.of_below k) λ_ h=>h
end
def Sl.get{w:World}{p:Nat->Prop}{sz:Nat}{a:Option Addr}{n cap:Nat}{G:Nat->List Value}(h:Sl w p sz (.slice a n cap) n G)(hn:0<n):
  ∃b off,a=some ⟨b,off,none⟩/\p b/\b<w.heap.size/\Ig w b off sz n G:=by
 obtain⟨a',cap',hv,h1,h2,h3,h4⟩:=h
 grind
def Sl.form{w:World}{p:Nat->Prop}{sz:Nat}{v:Value}{n:Nat}{G:Nat->List Value}(h:Sl w p sz v n G):∃a cap,v=.slice a n cap/\n<=cap/\cap<=9223372036854775807:=by obtain⟨a,cap,hv,h1,h2,_⟩:=h;grind
def ng.sl{w:World}{base:Nat}{T:TypeId}{sz:Nat}{v:Value}{n:Nat}{F:Nat->List Value}(h:ng w base T sz v n F):Sl w (λb=>base<=b) sz v n F:=by
 rcases h.form with⟨rfl,rfl⟩|⟨g,cap,rfl,hb,hn,hm,hl,hr⟩
 .grind[Sl.nil]
 .exact⟨_,cap,rfl,hn,hm,.inr ⟨g,0,rfl,hb,hl,hr⟩,h.2⟩
def Sl.cellAt{w w':World}{p:Nat->Prop}{sz n:Nat}{a:Option Addr}{cap:Nat}{G:Nat->List Value}(h:Sl w p sz (.slice a n cap) n G){b off:Nat}(ha:a=some ⟨b,off,none⟩)(k:Below w.heap.size w w'){i j:Nat}(hi:i<n)(hj:j<sz):
  w'.cell? ⟨b,off+i*sz+j,none⟩=(G i)[j]?:=by
 obtain⟨b',off',ha',-,hl,hr⟩:=h.get jb
 rw[ha]at ha'
 simp only[aT,Addr.mk.injEq,and_true]at ha'
 obtain⟨rfl,rfl⟩:=ha'
 exact(hr.below k hl) i j hi hj
end Go.Proofs.Ins
namespace Go.Proofs.Xe
open Go.RowKit Go.Proofs.Ins
def zX(N:Nat):Value->B
 |.int k n=>.int k n
 |.bool b=>.bool b
 |.string s=>.str s
 |.pointer (some a)=>if a.spot=none/\a.block<N then .ptr a.block a.off else .any
 |.pointer none=>.VZ
 |.slice (some a) n K=>if K<=9223372036854775807 then(if a.spot=none/\a.block<N/\n<=K then .sl a.block a.off n .any else if n=0 then .sl 0 0 0 .any else .any)else .any
 |.slice none 0 0=>.aQ
 |_=>.any
def Ph.id(N:Nat):Ph:=λb=>if b<N then some (b,0)else none
theorem Gj(N:Nat)(v:Value)(h:(zX N v).kn=true):RB (Ph.id N) (zX N v) v:=by
 unfold zX at h⊢;split at h<;>try rfl
 .next a=>
  split at h
  .next hc=>
   rw[ab hc];obtain⟨b,o,s⟩:=a;obtain⟨h1,h2⟩:=hc;dsimp only at h1 h2;subst h1;exact⟨(b,0),ab h2,rfl⟩
  .cases h
 .next a n K=>
  split at h
  .next hK=>
   rw[ab hK];split at h
   .next hc=>
    rw[ab hc];obtain⟨b,o,s⟩:=a;obtain⟨h1,h2,h3⟩:=hc;dsimp only at h1 h2;subst h1;exact .inl ⟨(b,0),K,ab h2,rfl,h3,hK,trivial⟩
   .next hc=>
    rw[ae hc];split at h
    .next h0=>
     subst h0;rw[ab rfl];exact .inr ⟨rfl,rfl,a,K,rfl,hK⟩
    .cases h
  .cases h
 .cases h
def St.of(w:World):St:=⟨.fn λb=>match w.heap[b]? with|some (.cells cs _ _)=>some ⟨cs.toList.map (zX w.heap.size),some (0,1)⟩|_=>none,w.heap.size⟩
def WF.of(w:World):WF (St.of w):=λb hb=>by have hb:w.heap.size<=b:=hb;show(match w.heap[b]? with|some (.cells cs _ _)=>some _|_=>none)=none;grind
def Rel.of(w:World):Rel w.heap.size w (Ph.id w.heap.size) (St.of w) w where
 n0:=jp
 bel:=Below.refl _ _
 inj:=λb b' p p' h1 _ _ hN _ _=>by grind[Ph.id]
 lo:=λb p h=>by grind[Ph.id]
 fz:=λb k p hk _ _=>by
  have hk:(match w.heap[b]? with|some (.cells cs _ _)=>some (⟨cs.toList.map (zX w.heap.size),some (0,1)⟩:Bk)|_=>none)=some k:=hk;split at hk
  .cases hk;exact⟨rfl,rfl⟩
  grind
 blk:=λb k p hk hp=>by
  have hp':p.1=b/\b<w.heap.size:=by grind[Ph.id]
  have hk:(match w.heap[b]? with|some (.cells cs _ _)=>some (⟨cs.toList.map (zX w.heap.size),some (0,1)⟩:Bk)|_=>none)=some k:=hk;split at hk
  .next cs T z hcs=>
   cases hk;refine .inr (.inr ⟨rfl,rfl,λj x hj hx=>?_⟩);grind[Go.Proofs.Xe.Gj,Go.World.cell?]
  grind
 aj:=λb hb=>by have hb:w.heap.size<=b:=hb;refine⟨ae jb,?_⟩;show(match w.heap[b]? with|some (.cells cs _ _)=>some _|_=>none)=none;grind
def ay4{w:World}{b o n:Nat}{l:List Value}(hn:l.length=n)(h0:0<n)(h:∀j v,l[j]?=some v->w.cell? ⟨b,o+j,none⟩=some v)(hk:∀v∈l,(zX w.heap.size v).kn=true):
  ld (St.of w).h b o n true=some (.agg (l.map (zX w.heap.size))):=by
 have hc:∃cs T z,w.heap[b]?=some (.cells cs T z)/\(cs.toList.drop o).take n=l:=by
  match l,hn with
  |v::l',hn=>
   have h1:=h 0 v rfl
   unfold World.cell? at h1
   dsimp only at h1
   split at h1
   .next cs T z e=>
    refine⟨cs,T,z,e,?_⟩
    apply List.ext_getElem?
    grind[Go.World.cell?]
   grind
  |[],hn=>simp at hn;omega
 obtain⟨cs,T,z,e,hl⟩:=hc
 have hg:(St.of w).h b=some ⟨cs.toList.map (zX w.heap.size),some (0,1)⟩:=by show(match w.heap[b]? with|some (.cells cs _ _)=>some (⟨cs.toList.map (zX w.heap.size),some (0,1)⟩:Bk)|_=>none)=_;rw[e]
 unfold ld
 rw[hg]
 show(bif true then _ else _)=_
 grind[zT,List.map_drop,List.map_take,Ze]
def aeo(N:Nat)(a:Addr)(n K:Nat):zX N (.slice (some a) n K)=if K<=9223372036854775807 then(if a.spot=none/\a.block<N/\n<=K then .sl a.block a.off n .any else if n=0 then .sl 0 0 0 .any else .any)else .any:=rfl
def HL.of{w:World}{a:Option Addr}{n cap e:Nat}{F:Nat->List Value}(h:afZ w a n e F)(hf:(a=none/\n=0/\cap=0)\/∃x,a=some x)(hn:n<=cap)(hc:cap<=9223372036854775807)(he:0<e)(hF:∀i,i<n->(F i).length=e)(hk:∀i,i<n->∀v∈F i,(zX w.heap.size v).kn=true):
  HL (St.of w).h e (zX w.heap.size (.slice a n cap)) n λi=>(F i).map (zX w.heap.size):=by
 rcases hf with⟨rfl,rfl,rfl⟩|⟨x,rfl⟩
 .exact .inl ⟨rfl,rfl⟩
 .by_cases h0:n=0
  .subst h0
   rw[aeo,ab hc]
   split
   .exact .inr ⟨_,_,_,rfl,λi hi=>jb⟩
   .rw[ab rfl];exact .inr ⟨_,_,_,rfl,λi hi=>jb⟩
  .rcases h with h|⟨b,off,e1,hb,hr⟩
   .omega
   .cases e1
    rw[aeo,ab hc,ab ⟨rfl,hb,hn⟩]
    refine .inr ⟨_,_,_,rfl,λi hi=>ay4 (hF i hi) he (λj v hj=>?_) (hk i hi)⟩
    have hlt:j<e:=by grind
    have:=hr i j hi hlt
    grind
end Go.Proofs.Xe
end
