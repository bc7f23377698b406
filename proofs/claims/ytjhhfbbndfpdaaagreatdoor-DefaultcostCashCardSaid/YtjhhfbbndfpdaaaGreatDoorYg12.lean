import Derived.Test.YtjhhfbbndfpdaaaGreatDoorYg11
set_option linter.all false
noncomputable section
namespace Go.Proofs.Xe
open Go.RowKit Go.Proofs.Ins
def aY:Nat->(Nat->List B)->List B
 |0,_=>[]
 |n+1,G=>G 0++aY n λi=>G (i+1)
def Y7{e:Nat}:∀{n:Nat}{G:Nat->List B}{i:Nat},(∀j,(G j).length=e)->i<n->∃r,(aY n G).drop (i*e)=G i++r
 |0,_,_,_,h=>jb
 |n+1,G,0,_,_=>⟨aY n λi=>G (i+1),by rw[gi];rfl⟩
 |n+1,G,i+1,hG,h=>by obtain⟨r,hr⟩:=Y7 (G:=λi=>G (i+1)) (i:=i) (λj=>hG (j+1)) (by omega:i<n);refine⟨r,?_⟩;show(G 0++aY n λi=>G (i+1)).drop _=_;rw[cj,dC,<-hG 0,List.drop_length_add_append,hG 0];exact hr
def Ap{e n i k m:Nat}{G:Nat->List B}(g:Bool)(hG:∀j,(G j).length=e)(h:i<n)(hk:k+m<=e)(hm:0<m):yZ (aY n G) (i*e+k) m g=yZ (G i) k m g:=by
 obtain⟨r,hr⟩:=Y7 hG h;have hd:(aY n G).drop (i*e+k)=(G i).drop k++r:=by rw[<-iB,hr,List.drop_append_of_le_length kd]
 have hl:((G i).drop k).length=e-k:=by grind
 unfold yZ;grind
def ajF:∀(p:List B) (l:List B) (o:Nat) (vs:List B),wI (p++l) (p.length+o) vs=match wI l o vs with|some r=>some (p++r)|none=>none
 |[],l,o,vs=>by grind
 |x::p,l,o,vs=>by rw[fi,bL,show p.length+1+o=(p.length+o)+1 by omega,wI,ajF p l o vs];cases wI l o vs<;>rfl
def adZ:∀(p:List B) (l:List B) (o:Nat) (vs:List B),o+vs.length<=p.length->wI (p++l) o vs=match wI p o vs with|some r=>some (r++l)|none=>none
 |p,l,0,vs,h=>by grind[wI,nV]
 |[],l,o+1,vs,h=>by simp at h
 |x::p,l,o+1,vs,h=>by rw[fi,wI,wI,adZ p l o vs (by simp only[bL]at h;omega)];cases wI p o vs<;>rfl
def iC(G:Nat->List B)(i:Nat)(r:List B):Nat->List B:=λj=>if j=i then r else G j
def uS{e k:Nat}{vs:List B}:∀{n i:Nat}{G:Nat->List B},(∀j,(G j).length=e)->i<n->k+vs.length<=e->wI (aY n G) (i*e+k) vs=match wI (G i) k vs with|some r=>some (aY n (iC G i r))|none=>none
 |0,_,_,_,h,_=>jb
 |n+1,0,G,hG,_,hk=>by rw[gi,ck];show wI (G 0++_) k vs=_;rw[adZ _ _ _ _ kd];rfl
 |n+1,i+1,G,hG,h,hk=>by
  show wI (G 0++aY n λi=>G (i+1)) _ vs=_;rw[show(i+1)*e+k=(G 0).length+(i*e+k) by rw[hG,cj];omega,ajF,uS (λj=>hG (j+1)) jb hk];cases wI (G (i+1)) k vs with
  |none=>rfl
  |some r=>
   show some _=some _
   congr 1
   show G 0++_=iC G (i+1) r 0++_
   congr 2
   funext j
   unfold iC
   simp only[Nat.add_right_cancel_iff]
theorem bf:∀{n:Nat}{G H:Nat->List B},(∀i,i<n->G i=H i)->aY n G=aY n H
 |0,_,_,_=>rfl
 |n+1,G,H,h=>by unfold aY;rw[h 0 jb,bf λi hi=>h (i+1) jb]
def NW(z:List B):∀n,rep z n=aY n λ_=>z
 |0=>rfl
 |n+1=>by unfold rep aY;rw[NW z n]
theorem jv:∀(n:Nat) (G:Nat->List B) (r:List B),aY n G++r=aY (n+1) (iC G n r)
 |0,G,r=>by grind[aY,iC]
 |n+1,G,r=>by rw[aY,gS,jv n _ r];show _=iC G (n+1) r 0++aY (n+1) _;congr 2;funext j;unfold iC;simp only[Nat.add_right_cancel_iff]
theorem ng{e:Nat}:∀{n:Nat}{G:Nat->List B},(∀j,(G j).length=e)->(aY n G).length=n*e
 |0,_,_=>by simp[aY]
 |n+1,G,h=>by rw[aY,ax,h,ng λj=>h (j+1),cj];omega
def wL{h:Tr Bk}{b o n:Nat}{cs:List B}(e:ld h b o n true=some (.agg cs))(k m:Nat)(g:Bool)(hk:k+m<=n)(hm:0<m):ld h b (o+k) m g=yZ cs k m g:=by
 unfold ld at e⊢;cases hb:h b with
 |none=>grind
 |some bk=>
  rw[hb]at e
  dsimp only at e⊢
  cases hr:bk.rd with
  |false=>grind
  |true=>
   rw[hr]at e
   simp only[ce]at e⊢
   unfold yZ at e
   dsimp only at e
   cases hx:(Nat.beq ((bk.cells.drop o).take n).length n&&((bk.cells.drop o).take n).all B.kn)with
   |false=>grind
   |true=>
    rw[hx]at e
    cases e
    rw[ap]at hx
    have hl:=aw hx.1
    rw[dj]at hl
    unfold yZ
    cases g with
    |true=>
     grind[List.drop_take,List.drop_drop]
    |false=>
     dsimp only
     rw[List.drop_take,iB]
     have hd:n-k=(n-k-1)+1:=jb
     grind
def FI{h:Tr Bk}{b o n:Nat}{cs:List B}(e:ld h b o n true=some (.agg cs))(m:Nat)(g:Bool)(hk:m<=n)(hm:0<m):ld h b o m g=yZ cs 0 m g:=wL e 0 m g jb hm
def dP(q:Rat):List B:=(rK q)
def cO(n:Nat)(f:Nat->Rat):List B:=aY n λi=>dP (f i)
def aJ{α:Type}(f:Nat->α)(i:Nat)(q:α):Nat->α:=λj=>if j=i then q else f j
def Wv(n:Nat)(f:Nat->Rat)(i:Nat)(h:i<n):yZ (cO n f) (i*3) 3 true=some (.agg (rK (f i))):=by unfold cO;have:=Ap (e:=3) (k:=0) (m:=3) (G:=λi=>dP (f i)) true (λ_=>rfl) h jj jj;rw[bO]at this;rw[this];rfl
def aou(n:Nat)(f:Nat->Rat)(i:Nat)(q:Rat)(h:i<n):wI (cO n f) (i*3) (rK q)=some (cO n (aJ f i q)):=by unfold cO;have:=uS (e:=3) (k:=0) (vs:=dP q) (G:=λi=>dP (f i)) (λ_=>rfl) h (cx 3);rw[bO]at this;show wI _ _ (dP q)=_;rw[this];show some _=some _;congr 2;funext j;unfold iC aJ;split<;>rfl
theorem dU{n:Nat}{f g:Nat->Rat}(h:∀i,i<n->f i=g i):cO n f=cO n g:=bf λi hi=>by grind
def ajG(n:Nat):rep (rK 0) n=cO n λ_=>0:=NW _ n
theorem agu (n:Nat) (f:Nat→Rat) (q:Rat):cO n f ++ [.bool (rn q),.str (rs q),.str (rd q)]=cO (n+1) (aJ f n q):=by
 unfold cO
 rw [show [B.bool (rn q),.str (rs q),.str (rd q)]=dP q from rfl,jv]
 congr 1
 grind[iC,aJ]
theorem Qd(n:Nat)(f:Nat->Rat):(cO n f).length=n*3:=ng λ_=>rfl
def ones(n:Nat)(g:Nat->B):List B:=aY n λi=>[g i]
def Wx(n:Nat)(g:Nat->B)(i:Nat)(h:i<n):yZ (ones n g) (i*1) 1 false=bif (g i).kn then some (.c (g i))else none:=by unfold ones;have:=Ap (e:=1) (k:=0) (m:=1) (G:=λi=>[g i]) false (λ_=>rfl) h jj jj;rw[bO]at this;rw[this];rfl
def Wy(n:Nat)(g:Nat->B)(i:Nat)(x:B)(h:i<n):wI (ones n g) (i*1) [x]=some (ones n (aJ g i x)):=by unfold ones;have:=uS (e:=1) (k:=0) (vs:=[x]) (G:=λi=>[g i]) (λ_=>rfl) h (cx 1);rw[bO]at this;rw[this];show some _=some _;congr 2;grind[iC,aJ]
def dF{n:Nat}{f g:Nat->B}(h:∀i,i<n->f i=g i):ones n f=ones n g:=bf λi hi=>by grind
def Y8(x:B)(n:Nat):rep [x] n=ones n λ_=>x:=NW _ n
theorem Qe(n:Nat)(g:Nat->B):(ones n g).length=n*1:=ng λ_=>rfl
theorem aI{α:Type}(f:Nat->α)(i:Nat)(q:α):aJ f i q i=q:=ab rfl
theorem aQ{α:Type}(f:Nat->α)(i j:Nat)(q:α)(h:j≠i):aJ f i q j=f j:=ae h
def Jg:Option V->Nat->Option Nat
 |none,d=>some d
 |some v,_=>DX v
def ajH(b:Option O)(tm:Tr V)(d:Nat):Yq b tm d=Jg (b.map (·.ev tm)) d:=by cases b<;>rfl
def Dk(iF:Nat)(x:V)(lo hi mx:Option V):Option V:=
 match x with
 |.c (.sl b o n c)=>
  match Jg lo 0,Jg hi n with
  |some l,some h=>bif Nat.ble l h&&Nat.ble h n then
    match mx with
    |none=>(match c with
     |.ex k=>bif Nat.blt l k then some (.c (.sl b (o+l*iF) (h-l) (.ex (k-l))))else some (.c (.sl b o 0 .any))
     |.opn=>bif Nat.beq l 0 then some (.c (.sl b o h .opn))else bif Nat.blt l n then some (.c (.sl b (o+l*iF) (h-l) .any))else some (.c (.sl b o 0 .any))
     |.any=>bif Nat.blt l n then some (.c (.sl b (o+l*iF) (h-l) .any))else some (.c (.sl b o 0 .any)))
    |some y=>match DX y with
     |some q=>bif Nat.ble h q&&Nat.ble q n then bif Nat.beq l 0 then some (.c (.sl b o h (bif Nat.beq n 0 then .any else .ex q)))else none else none
     |none=>none
   else none
  |_,_=>none
 |.c .aO=>match Jg lo 0,Jg hi 0 with
  |some 0,some 0=>(match mx with|none=>some (.c .aO)|some y=>match DX y with|some 0=>some (.c .aO)|_=>none)
  |_,_=>none
 |_=>none
def Y9(iF:Nat)(x:O)(lo hi mx:Option O)(tm:Tr V):Pn iF x lo hi mx tm=Dk iF (x.ev tm) (lo.map (·.ev tm)) (hi.map (·.ev tm)) (mx.map (·.ev tm)):=by unfold Pn Dk;simp only[qH,ajH];cases mx<;>rfl
def aov(E:Env)(tm:Tr V)(J:St)(K:V->St->Prop)(iF:Nat)(x:O)(lo hi mx:Option O):wpOp E (.slice iF x lo hi mx) tm J K=Dw (Dk iF (x.ev tm) (lo.map (·.ev tm)) (hi.map (·.ev tm)) (mx.map (·.ev tm))) λv=>K v J:=by rw[fM _ _ _ _ (by rfl) λ_ _ h=>by cases h];show Dw (Pn iF x lo hi mx tm) _=_;rw[Y9]
def agv:B->Prop
 |.sl _ _ n (.ex k)=>n<=k
 |_=>True
def ajI{v:B}{n h:Nat}(hc:agv v)(hv:(n=0/\v=.aO)\/∃b o c,v=.sl b o n c/\0<n)(hh:h<=n)(iF:Nat):∃v',Dk iF (.c v) none (some (jN h)) none=some (.c v')/\agv v'/\((n=0/\v'=.aO)\/∃b o c c',v=.sl b o n c/\v'=.sl b o h c'):=by
 rcases hv with⟨rfl,rfl⟩|⟨b,o,c,rfl,hn⟩
 .have:h=0:=jb;subst this;exact⟨.aO,rfl,trivial,.inl ⟨rfl,rfl⟩⟩
 .cases c with
  |ex k=>
   have hc:n<=k:=hc
   refine⟨.sl b o h (.ex k),?_,by show h<=k;omega,.inr ⟨b,o,_,_,rfl,rfl⟩⟩
   grind[Dk,Jg,DX,nV,CY]
  |opn=>
   refine⟨.sl b o h .opn,?_,trivial,.inr ⟨b,o,_,_,rfl,rfl⟩⟩
   grind[Dk,Jg,DX,nV,Y2]
  |any=>
   refine⟨.sl b o h .any,?_,trivial,.inr ⟨b,o,_,_,rfl,rfl⟩⟩
   grind[Dk,Jg,DX,nV,CY]
attribute [go_sem] aov Option.map_some Option.map_none
attribute [go_sem] Wv aou ajG Wx Wy Y8
structure aU(ex:List Nat)(J J':St):Prop where
 le:J.aj<=J'.aj
 wf:WF J'
 old:∀b,b<J.aj->¬b∈ex->J'.h b=J.h b
def Fr.ex{J J':St}(h:Fr J J')(ex:List Nat):aU ex J J':=⟨h.le,h.wf,λb hb _=>h.old b hb⟩
theorem aU.refl{J:St}{ex:List Nat}(h:WF J):aU ex J J:=(Fr.refl h).ex ex
def aU.trans{ex:List Nat}{J J' PK:St}(h:aU ex J J')(h':aU ex J' PK):aU ex J PK:=⟨ar h.le h'.le,h'.wf,λb hb hx=>(h'.old b (aE hb h.le) hx).trans (h.old b hb hx)⟩
def aU.to{ex:List Nat}{σ0 J J':St}(h:Fr σ0 J)(he:aU ex J J')(hx:∀b∈ex,σ0.aj<=b):Fr σ0 J':=⟨ar h.le he.le,he.wf,λb hb=>(he.old b (aE hb h.le) λhm=>by grind).trans (h.old b hb)⟩
def aU.to'{ex ex':List Nat}{σ0 J J':St}(h:aU ex' σ0 J)(he:aU ex J J')(hx:∀b∈ex,σ0.aj<=b\/b∈ex'):aU ex' σ0 J':=⟨ar h.le he.le,he.wf,λb hb hn=>(he.old b (aE hb h.le) λhm=>by grind).trans (h.old b hb hn)⟩
def aU.new1{ex:List Nat}{J:St}{h:Tr Bk}{n:Nat}{k:Bk}(hf:aU ex J ⟨h,n⟩):aU ex J ⟨hset h n k,n+1⟩:=
 ⟨Nat.le_succ_of_le hf.le,λb hb=>by
  have hb:n+1<=b:=hb;show hset h n k b=none;rw[ak _ _ _ _ jb];exact hf.wf b (show n<=b by omega),λb hb hx=>by
  show hset h n k b=_;have:J.aj<=n:=hf.le;rw[ak _ _ _ _ jb];exact hf.old b hb hx⟩
def aU.set1{ex:List Nat}{J:St}{h:Tr Bk}{n b:Nat}{k:Bk}(hf:aU ex J ⟨h,n⟩)(hb:J.aj<=b\/b∈ex)(hb2:b<n):aU ex J ⟨hset h b k,n⟩:=
 ⟨hf.le,λj hj=>by
  have hj:n<=j:=hj;show hset h b k j=none;rw[ak _ _ _ _ jb];exact hf.wf j hj,λj hj hx=>by
  show hset h b k j=_;rw[ak _ _ _ _ (λe=>by grind)];exact hf.old j hj hx⟩
theorem aU.ld{ex:List Nat}{J J':St}(h:WF J)(hf:aU ex J J'){b o n:Nat}{g:Bool}{v:V}(hx:¬b∈ex)(hb:Xe.ld J.h b o n g=some v):Xe.ld J'.h b o n g=some v:=by have hlt:=h.dh hb;unfold Xe.ld at hb⊢;rw[hf.old b hlt hx];exact hb
def aU.get{ex:List Nat}{J J':St}(h:WF J)(hf:aU ex J J'){b:Nat}{k:Bk}(hx:¬b∈ex)(hb:J.h b=some k):J'.h b=some k:=by rw[hf.old b (h.lt hb) hx];exact hb
def uK:Nat:=1000
def dK:Nat:=29000000
def eK:Nat:=29002000
def Zk(D k:Nat)(q:Rat):Prop:=∃a:Int,q=(a:Rat)/(D:Rat)/\a.natAbs<=k*(D*256^uK)
def Dl(D:Nat):Prop:=0<D/\D<256^dK
def aow{D k u d s a:Nat}(hD:D<256^d)(hk:k<=256^u)(hs:u+d+u<=s)(ha:a<=k*(D*256^u)):a<256^s:=by have h1:(256:Nat)^(u+d+u)<=256^s:=bq jj hs;refine cW ha (aE ?_ h1);rw[dT,dT,eN];exact cW (bh _ hk) (Nat.mul_lt_mul_of_pos_left (et hD (dp jj)) (dp jj))
def Sm.int{k:Nat}{a:Int}(hk:k≠0)(h:a.natAbs<256^k):Sm k (a:Rat):=⟨by show(a:Rat).num.natAbs<_;simp_all,by simp_all⟩
section
variable {D k l:Nat} {p q:Rat}
def Dl.ne(h:Dl D):(D:Rat)≠0:=by have:=h.1;intro e;simp_all
def Zk.int{a:Int}(hD:Dl D)(hk:k<=256^uK)(h:a.natAbs<=k*(D*256^uK)):Sm eK (a:Rat):=Sm.int jj (aow hD.2 hk jj h)
def Zk.sz(h:Zk D k q)(hD:Dl D)(hk:k<=256^uK):Sz q:=by obtain⟨a,rfl,h2⟩:=h;have h3:Sm dK ((D:Int):Rat):=Sm.int jj hD.2;exact((Zk.int hD hk h2).div h3 hD.ne).mono jj
def Zk.ax7(h:Zk D k p)(h':Zk D l q)(hD:Dl D)(hk:k<=256^uK)(hl:l<=256^uK)(h0:q≠0):Sz (p/q):=by
 obtain⟨a,rfl,h2⟩:=h;obtain⟨b,rfl,h3⟩:=h';have hb:(b:Rat)≠0:=λe=>h0 kd;have e:(a:Rat)/(D:Rat)/((b:Rat)/(D:Rat))=(a:Rat)/(b:Rat):=by grind
 rw[e];exact((Zk.int hD hk h2).div (Zk.int hD hl h3) hb).mono jj
def Zk.mono(h:Zk D k q)(hkl:k<=l):Zk D l q:=by obtain⟨a,e,h2⟩:=h;exact⟨a,e,ar h2 (bh _ hkl)⟩
theorem Zk.add(h:Zk D k p)(h':Zk D l q):Zk D (k+l) (p+q):=by
 obtain⟨a,rfl,h2⟩:=h;obtain⟨b,rfl,h3⟩:=h';refine⟨a+b,?_,?_⟩
 .rw[Rat.intCast_add];grind
 .rw[gN];omega
def Zk.neg(h:Zk D k p):Zk D k (-p):=by obtain⟨a,rfl,h2⟩:=h;refine⟨-a,?_,jb⟩;grind
def Zk.sub(h:Zk D k p)(h':Zk D l q):Zk D (k+l) (p-q):=by rw[fR];exact h.add h'.neg
theorem Zk.zero:Zk D k 0:=⟨0,by grind,by simp⟩
end
def hdel(h:Tr Bk)(b:Nat):Tr Bk:=h.set b none
theorem WA(h:Tr Bk)(b j:Nat):hdel h b j=if j=b then none else h j:=Tr.vI h b none j
theorem eY(h:Tr Bk)(b j:Nat)(e:j≠b):hdel h b j=h j:=by grind[WA]
def at1(h:Tr Bk)(b j o n:Nat)(g:Bool)(e:j≠b):ld (hdel h b) j o n g=ld h j o n g:=by grind[ld,eY]
def aox(o:Option (V×St))(K:V->St->Prop):Prop:=match o with|some (v,J)=>K v J|none=>False
@[congr] theorem at6 {o o' : Option (V×St)} {K:V→St→Prop} (h:o=o'):aox o K=aox o' K:=by rw [h]
def agw(v:V)(J:St)(K:V->St->Prop):aox (some (v,J)) K=K v J:=rfl
def agx(ty iF bytes:Nat)(s x:V)(J:St):Option (V×St):=
 match x with
 |.c .aO=>rU ty iF bytes s 0 [] J
 |.c (.sl b o m _)=>bif Nat.beq m 0 then rU ty iF bytes s 0 [] J else match J.h b with
  |some k=>bif k.rd&&(Nat.beq ((k.cells.drop o).take (m*iF)).length (m*iF)&&((k.cells.drop o).take (m*iF)).all B.kn)then rU ty iF bytes s m ((k.cells.drop o).take (m*iF)) J else none
  |none=>none
 |_=>none
def ax8(E:Env)(tm:Tr V)(J:St)(K:V->St->Prop)(ty iF bytes:Nat)(s x:O):wpOp E (.app ty iF bytes s x) tm J K=aox (agx ty iF bytes (s.ev tm) (x.ev tm) J) K:=by rfl
def agy(ty iF bytes:Nat)(s:V)(J:St):agx ty iF bytes s (.c .aO) J=rU ty iF bytes s 0 [] J:=rfl
def ajJ(ty iF bytes:Nat)(s:V)(b o:Nat)(c:Cap)(J:St):agx ty iF bytes s (.c (.sl b o 0 c)) J=rU ty iF bytes s 0 [] J:=rfl
def ad1(ty iF bytes:Nat)(s:V)(b o m:Nat)(c:Cap)(J:St)(hm:0<m):agx ty iF bytes s (.c (.sl b o m c)) J=match J.h b with
  |some k=>bif k.rd&&(Nat.beq ((k.cells.drop o).take (m*iF)).length (m*iF)&&((k.cells.drop o).take (m*iF)).all B.kn)then rU ty iF bytes s m ((k.cells.drop o).take (m*iF)) J else none
  |none=>none:=by
 grind[agx,UC]
variable {ty iF bytes n m:Nat} {news:List B} {h:Tr Bk} {nx b:Nat}
def UD(h1:0<m)(h2:0<iF)(h3:m*bytes<=140737488355328)(h4:m<=1073741824):rU ty iF bytes (.c .aO) m news ⟨h,nx⟩=some (.c (.sl nx 0 m .opn),⟨hset h nx ⟨news,some (iF,ty)⟩,nx+1⟩):=by grind[rU,UC,CY,nV,lY]
def apK(ty iF bytes n m:Nat)(news:List B)(b:Nat)(h:Tr Bk)(nx:Nat)(k:Option Bk):Option (V×St):=match k with
 |some ⟨cells,some (e,t)⟩=>bif Nat.blt 0 e&&Nat.beq 0 0&&(Nat.beq e iF&&(Nat.beq t ty&&(Nat.ble ((n+m)*bytes) 140737488355328&&(Nat.ble (n+m) 1073741824&&Nat.ble (n*iF) cells.length))))then
   some (.c (.sl nx 0 (n+m) .opn),⟨hset (hdel h b) nx ⟨cells.take (n*iF)++news,some (iF,ty)⟩,nx+1⟩)else none
 |_=>none
def ajK(h1:0<m):rU ty iF bytes (.c (.sl b 0 n .opn)) m news ⟨h,nx⟩=apK ty iF bytes n m news b h nx (h b):=by
 unfold rU apK;dsimp only;rw[UC (by omega:m≠0)];simp only[eQ];split
 .next cells e t hk=>
  rw[hk];dsimp only;cases(Nat.blt 0 e&&Nat.beq 0 0&&(Nat.beq e iF&&(Nat.beq t ty&&(Nat.ble ((n+m)*bytes) 140737488355328&&(Nat.ble (n+m) 1073741824&&Nat.ble (n*iF) cells.length)))))with
  |false=>rfl
  |true=>
   simp only[ce,Tr.put,lY,qH]
   rfl
 simp
def Za{cells:List B}(h2:0<iF)(h3:(n+m)*bytes<=140737488355328)(h4:n+m<=1073741824)(h5:n*iF<=cells.length):apK ty iF bytes n m news b h nx (some ⟨cells,some (iF,ty)⟩)=some (.c (.sl nx 0 (n+m) .opn),⟨hset (hdel h b) nx ⟨cells.take (n*iF)++news,some (iF,ty)⟩,nx+1⟩):=by simp_all[apK,CY,nV]
def agz(b o n:Nat)(J:St):rU ty iF bytes (.c (.sl b o n (.ex n))) 0 news J=some (.c (.sl b o n (.ex n)),J):=by simp_all[rU,nV]
def ajL(b o n:Nat)(J:St):rU ty iF bytes (.c (.sl b o n .any)) 0 news J=some (.c (.sl b o n .any),J):=rfl
def abT(J:St)(h1:0<m)(h2:0<iF)(h3:m*bytes<=140737488355328)(h4:m<=1073741824):rU ty iF bytes (.c .aO) m news J=some (.c (.sl J.aj 0 m .opn),⟨hset J.h J.aj ⟨news,some (iF,ty)⟩,J.aj+1⟩):=UD h1 h2 h3 h4
def abU(J:St):rU ty iF bytes (.c .aO) 0 news J=some (.c .aO,J):=rfl
def UE(J:St)(h1:0<m):rU ty iF bytes (.c (.sl b 0 n .opn)) m news J=apK ty iF bytes n m news b J.h J.aj (J.h b):=ajK h1
def abV{J:St}(hb:J.h b=some ⟨[],none⟩)(h1:0<m)(h2:0<iF)(h3:m*bytes<=140737488355328)(h4:m<=1073741824):rU ty iF bytes (.c (.sl b 0 0 (.ex 0))) m news J=some (.c (.sl J.aj 0 m .opn),⟨hset J.h J.aj ⟨news,some (iF,ty)⟩,J.aj+1⟩):=by unfold rU;dsimp only;rw[UC (by omega:m≠0),hb];simp only[eQ,Bk.rd,gi,cH,di,CY h2,ck,CY h1,nV h3,nV h4,List.length_nil,cI,ce,lY,qH,gg,gn,Bool.true_and,bO];rfl
def Fr.mX{J:St}{h:Tr Bk}{n b:Nat}(hf:Fr J ⟨h,n⟩)(h1:J.aj<=b):Fr J ⟨hdel h b,n⟩:=
 ⟨hf.le,λj hj=>by
  show hdel h b j=none;rw[WA];split
  .rfl
  .exact hf.wf j hj,λj hj=>by
  show hdel h b j=_;rw[eY _ _ _ jb];exact hf.old j hj⟩
def aU.mX{ex:List Nat}{J:St}{h:Tr Bk}{n b:Nat}(hf:aU ex J ⟨h,n⟩)(h1:J.aj<=b\/b∈ex):aU ex J ⟨hdel h b,n⟩:=
 ⟨hf.le,λj hj=>by
  show hdel h b j=none;rw[WA];split
  .rfl
  .exact hf.wf j hj,λj hj hx=>by
  show hdel h b j=_;rw[eY _ _ _ (λe=>by grind)];exact hf.old j hj hx⟩
def aW:Nat->Nat->B
 |0,_=>.aO
 |n+1,b=>.sl b 0 (n+1) .opn
def jV:Nat->Tr Bk->Nat->Tr Bk
 |0,h,_=>h
 |_+1,h,b=>hdel h b
def wM:Nat->Tr Bk->Nat->Option Bk
 |0,_,_=>none
 |_+1,h,b=>h b
def gF(n:Nat)(G:Nat->List B)(e ty:Nat):Option Bk:=match n with
 |0=>none
 |n+1=>some ⟨aY (n+1) G,some (e,ty)⟩
def LG(G:Nat->List B)(e:Nat):Prop:=∀j,(G j).length=e
def apF(ty iF bytes n m:Nat)(news:List B)(b:Nat)(h:Tr Bk)(nx:Nat)(k:Option Bk):Option (V×St):=match n with
 |0=>rU ty iF bytes (.c .aO) m news ⟨h,nx⟩
 |n+1=>apK ty iF bytes (n+1) m news b h nx k
theorem Jh(n b:Nat):(aW n b).kn=true:=by cases n<;>rfl
def Zb(n b:Nat):lenV (.c (aW n b))=some (jN n):=by cases n<;>rfl
theorem fE(n:Nat)(h:Tr Bk)(b j:Nat)(e:n=0\/j≠b):jV n h b j=h j:=by
 cases n with
 |zero=>rfl
 |succ n=>exact eY _ _ _ jb
def aoy(k:Nat)(h:Tr Bk)(b j o n:Nat)(g:Bool)(e:k=0\/j≠b):ld (jV k h b) j o n g=ld h j o n g:=by grind[ld,fE]
theorem xO{n:Nat}{h h':Tr Bk}{b:Nat}(e:n=0\/h' b=h b):wM n h' b=wM n h b:=by
 cases n with
 |zero=>rfl
 |succ n=>exact e.resolve_left jb
def ajM(n:Nat)(h:Tr Bk)(j b:Nat)(k:Bk)(e:n=0\/b≠j):wM n (hset h j k) b=wM n h b:=xO (by grind[ak])
def ajN(J:St)(h1:0<m):rU ty iF bytes (.c (aW n b)) m news J=apF ty iF bytes n m news b J.h J.aj (wM n J.h b):=by
 cases n with
 |zero=>rfl
 |succ n=>exact UE J h1
def at7{G:Nat->List B}(h1:0<m)(h2:0<iF)(h3:(n+m)*bytes<=140737488355328)(h4:n+m<=1073741824)(hG:LG G iF):apF ty iF bytes n m news b h nx (gF n G iF ty)=some (.c (.sl nx 0 (n+m) .opn),⟨hset (jV n h b) nx ⟨aY n G++news,some (iF,ty)⟩,nx+1⟩):=by
 cases n with
 |zero=>
  rw[ck]at h3 h4⊢
  exact UD h1 h2 h3 h4
 |succ n=>
  show apK ty iF bytes (n+1) m news b h nx (some ⟨aY (n+1) G,some (iF,ty)⟩)=_
  rw[Za h2 h3 h4 (by rw[ng hG];omega),<-ng (n:=n+1) hG,cr]
  rfl
def Fr.jV{J:St}{h:Tr Bk}{n b k:Nat}(hf:Fr J ⟨h,n⟩)(h1:k=0\/J.aj<=b):Fr J ⟨Xe.jV k h b,n⟩:=by
 cases k with
 |zero=>exact hf
 |succ k=>exact Fr.mX hf jb
def aU.jV{ex:List Nat}{J:St}{h:Tr Bk}{n b k:Nat}(hf:aU ex J ⟨h,n⟩)(h1:J.aj<=b\/b∈ex):aU ex J ⟨Xe.jV k h b,n⟩:=by
 cases k with
 |zero=>exact hf
 |succ k=>exact aU.mX hf h1
attribute [go_sem] Jh Zb fE aoy ajM ajN at7
def Fr.up{J J':St}{n:Nat}(hf:Fr J J')(hn:J'.aj<=n):Fr J ⟨J'.h,n⟩:=⟨ar hf.le hn,λb hb=>hf.wf b (ar hn hb),hf.old⟩
def Fr.nX{J:St}{h:Tr Bk}{n n':Nat}{k:Bk}(hf:Fr J ⟨h,n⟩)(hn:n<n'):Fr J ⟨hset h n k,n'⟩:=Fr.up (Fr.new1 hf) hn
theorem fr{J J':St}(h:Fr J J':=by repeat(first|assumption|exact Fr.refl (by assumption)|exact Fr.up (by assumption) kf|exact Fr.up (Fr.refl (by assumption)) kf|refine Fr.set1 ?_ kf kf|refine Fr.jV ?_ kf|refine Fr.mX ?_ kf|refine Fr.nX ?_ kf)):Fr J J':=h
def aU.up{ex:List Nat}{J J':St}{n:Nat}(hf:aU ex J J')(hn:J'.aj<=n):aU ex J ⟨J'.h,n⟩:=⟨ar hf.le hn,λb hb=>hf.wf b (ar hn hb),hf.old⟩
def aU.nX{ex:List Nat}{J:St}{h:Tr Bk}{n n':Nat}{k:Bk}(hf:aU ex J ⟨h,n⟩)(hn:n<n'):aU ex J ⟨hset h n k,n'⟩:=aU.up (aU.new1 hf) hn
def aC.st{E:Env}{f:Nat}{args:List V}{J:St}{K:V->St->Prop}(P:St->Prop)(h:P J)(h2:P J->aC E f args J K):aC E f args J K:=h2 h
def bM.st{E:Env}{c:AC}{tm:Tr V}{J:St}{Q:AX->Tr V->St->Prop}(P:St->Prop)(h:P J)(h2:P J->bM E c tm J Q):bM E c tm J Q:=h2 h
theorem UF{e:Nat}{l:List B}:∀{n:Nat}{o:Nat}{G:Nat->List B},(∀i,i<n->yZ l (o+i*e) e true=some (.agg (G i)))->(l.drop o).take (n*e)=aY n G/\(aY n G).length=n*e/\(aY n G).all B.kn=true
 |0,o,G,_=>by rw[gi,cH];exact⟨rfl,rfl,rfl⟩
 |n+1,o,G,h=>by
  have h0:=h 0 jb;rw[gi,bO]at h0;unfold yZ at h0;dsimp only at h0;cases hx:(Nat.beq ((l.drop o).take e).length e&&((l.drop o).take e).all B.kn)with
  |false=>grind
  |true=>
   rw[hx]at h0
   have e0:(l.drop o).take e=G 0:=by grind
   rw[ap]at hx
   have hl:=aw hx.1
   obtain⟨h1,h2,h3⟩:=UF (o:=o+e) (n:=n) (G:=λi=>G (i+1)) λi hi=>by have:=h (i+1) jb;rw[cj,dC (i*e),<-Nat.add_assoc]at this;exact this
   refine⟨?_,?_,?_⟩
   .unfold aY
    rw[<-e0,<-h1,<-iB,cj,dC (n*e),List.take_add]
   .unfold aY
    rw[ax,h2,<-e0,hl,cj,dC]
   .unfold aY
    rw[List.all_append,h3,<-e0,hx.2];rfl
def UG{h:Tr Bk}{e b o n:Nat}{G:Nat->List B}(hn:0<n)(hl:∀i,i<n->ld h b (o+i*e) e true=some (.agg (G i))):∃k,h b=some k/\k.rd=true/\(k.cells.drop o).take (n*e)=aY n G/\(aY n G).length=n*e/\(aY n G).all B.kn=true:=by grind[Go.Proofs.Xe.ld,Go.Proofs.Xe.UF]
def agA(n:Nat)(f:Nat->Rat):(cO n f).take (n*3)=cO n f:=by grind[Qd]
def agB(n:Nat)(g:Nat->B):(ones n g).take (n*1)=ones n g:=by grind[Qe]
def ajO(n:Nat)(f:Nat->Rat):n*3<=(cO n f).length:=by grind[Qd]
def aoz(h1:0<m)(h2:0<iF)(h3:m*bytes<=140737488355328)(h4:m<=1073741824):rU ty iF bytes (.c (.sl b 0 0 (.ex 0))) m news ⟨hset h b ⟨[],none⟩,nx⟩=some (.c (.sl nx 0 m .opn),⟨hset (hset h b ⟨[],none⟩) nx ⟨news,some (iF,ty)⟩,nx+1⟩):=abV (ay _ _ _) h1 h2 h3 h4
def abW:∀{n:Nat}{G:Nat->List B},(∀j,(G j).all B.kn=true)->(aY n G).all B.kn=true
 |0,_,_=>rfl
 |n+1,G,h=>by unfold aY;rw[List.all_append,h 0,abW λj=>h (j+1)];rfl
def aoA(n:Nat)(f:Nat->Rat):(cO n f).all B.kn=true:=abW λ_=>rfl
def ax9:((Int.ofNat 1:Int):Rat)=1:=rfl
def aya:((Int.ofNat 0:Int):Rat)=0:=rfl
attribute [go_sem] aoz aoA Bool.not_true Bool.not_false ax9 aya eY at1 agw ax8 agy ad1 ajJ ajL abT abU UE Za agz agA agB Qd Qe agu
end Go.Proofs.Xe
namespace Go.Proofs.Xe
open Go.RowKit Go.Proofs.Ins
def GH(k:IntKind)(v:V):Option V:=match v with|.c (.int _ n)=>bif IU k n then some (.c (.int k n))else some (.c (.int k (k.wrap n)))|_=>none
def aua(E:Env)(tm:Tr V)(J:St)(K:V->St->Prop)(k:IntKind)(x:O):wpOp E (.conv k x) tm J K=Dw (GH k (x.ev tm)) λv=>K v J:=fM _ _ _ _ rfl λ_ _ h=>by cases h
def ad2{k j:IntKind}{n:Int}(h:k.wrap n=n):GH k (.c (.int j n))=some (.c (.int k n)):=by grind[GH]
def aub(j:IntKind)(a:Nat)(h:a<=9223372036854775807):GH .i64 (.c (.int j (.ofNat a)))=some (jN a):=ad2 (by grind[IntKind.wrap_i64])
def auc(j:IntKind)(a:Nat)(h:a<=18446744073709551615):GH .u64 (.c (.int j (.ofNat a)))=some (.c (.int .u64 (.ofNat a))):=ad2 (by grind[IntKind.wrap_u64])
def aud(j:IntKind)(a:Nat):GH .u16 (.c (.int j (.ofNat a)))=some (.c (.int .u16 (.ofNat (a%65536)))):=by rfl
theorem lZ(op:BinOp)(k:IntKind)(a b:Int):iT op (.c (.int k a)) (.c (.int k b))=IV op k a b:=by unfold iT;simp
def ayb(k:IntKind)(a b:Nat)(h:0<b):iT .rem (.c (.int k (.ofNat a))) (.c (.int k (.ofNat b)))=some (.c (.int k (.ofNat (a%b)))):=by grind[lZ,IV,yw]
def abX(k:IntKind)(a b:Nat)(h:0<b)(hw:k.wrap (Int.ofNat (a/b))=Int.ofNat (a/b)):iT .quo (.c (.int k (.ofNat a))) (.c (.int k (.ofNat b)))=some (.c (.int k (.ofNat (a/b)))):=by grind[lZ,IV,yw]
def vM(a b m:Nat)(h:a<=m):a/b<=m:=ar (fj _ _) h
def agC(a b:Nat)(h:0<b)(h2:a<=9223372036854775807):iT .quo (jN a) (jN b)=some (jN (a/b)):=abX _ _ _ h (by have:=vM a b _ h2;grind[IntKind.wrap_i64])
def agD(a b:Nat)(h:0<b)(h2:a<=65535):iT .quo (.c (.int .u16 (.ofNat a))) (.c (.int .u16 (.ofNat b)))=some (.c (.int .u16 (.ofNat (a/b)))):=abX _ _ _ h (by have:=vM a b _ h2;grind[IntKind.wrap_u16])
def WB(k:IntKind)(a b:Nat)(ha:a<2^k.bits)(hb:b<2^k.bits):(BitVec.ofInt k.bits (Int.ofNat a)&&&BitVec.ofInt k.bits (Int.ofNat b)).toNat=a&&&b:=by grind
def Qg(k:IntKind)(a b:Nat)(ha:a<2^k.bits)(hb:b<2^k.bits):(BitVec.ofInt k.bits (Int.ofNat a)|||BitVec.ofInt k.bits (Int.ofNat b)).toNat=a|||b:=by grind
def agE(a b:Nat)(ha:a<=9223372036854775807)(hb:b<=9223372036854775807):iT .and (jN a) (jN b)=some (jN (a&&&b)):=by rw[lZ];unfold IV yw;dsimp only;rw[WB .i64 a b (by show a<18446744073709551616;omega) (by show b<18446744073709551616;omega),IntKind.wrap_i64];grind[Nat.and_le_left]
def agF(a b:Nat)(ha:a<=65535)(hb:b<=65535):iT .and (.c (.int .u16 (.ofNat a))) (.c (.int .u16 (.ofNat b)))=some (.c (.int .u16 (.ofNat (a&&&b)))):=by rw[lZ];unfold IV yw;dsimp only;rw[WB .u16 a b (by show a<65536;omega) (by show b<65536;omega),IntKind.wrap_u16];grind[Nat.and_le_left]
def agG(a b:Nat):iT .add (.c (.int .u16 (.ofNat a))) (.c (.int .u16 (.ofNat b)))=some (.c (.int .u16 (.ofNat ((a+b)%65536)))):=by rfl
def agH(a b:Nat):iT .mul (.c (.int .u16 (.ofNat a))) (.c (.int .u16 (.ofNat b)))=some (.c (.int .u16 (.ofNat (a*b%65536)))):=by rfl
def ayc(a b:Nat)(h:a*b<=9223372036854775807):iT .mul (jN a) (jN b)=some (jN (a*b)):=by show mkI .i64 (Int.ofNat a*Int.ofNat b)=_;rw[show Int.ofNat a*Int.ofNat b=Int.ofNat (a*b)from rfl,Ws h]
def ayd(k j:IntKind)(a c:Nat):iT .shr (.c (.int k (.ofNat a))) (.c (.int j (.ofNat c)))=some (.c (.int k (.ofNat (a/2^min c k.bits)))):=by
 have e:iT .shr (.c (.int k (.ofNat a))) (.c (.int j (.ofNat c)))=VX .shr k (.ofNat a) (.ofNat c):=by
  unfold iT;dsimp only;by_cases h:k=j
  .subst h;rw[aq rfl];rfl
  grind
 rw[e];unfold VX;grind
def ajP:IntKind.bits .i64=64:=rfl
def ajQ:IntKind.bits .u16=16:=rfl
def ajR:IntKind.bits .u64=64:=rfl
def aue(k:IntKind)(a b:Int):iT .eql (.c (.int k a)) (.c (.int k b))=some (.c (.bool (decide (a=b)))):=by rw[lZ];rfl
def auf(k:IntKind)(a b:Int):iT .neq (.c (.int k a)) (.c (.int k b))=some (.c (.bool (!decide (a=b)))):=by rw[lZ];rfl
attribute [go_sem] aua aub auc aud ayb agC agD agE agF agG agH ayc ayd ajP ajQ ajR aue auf
end Go.Proofs.Xe
namespace Go.Proofs.Ins
open Go.RowKit
def Own(w:World)(b sz n:Nat)(F:Nat->List Value):Prop:=
 ∃c T,w.heap[b]?=some (.cells c T (0,0))/\c.size=n*sz/\∀i j,i<n->j<sz->c[i*sz+j]?=(F i)[j]?
def aJ(F:Nat->List Value)(i:Nat)(x:List Value)(k:Nat):List Value:=if k=i then x else F k
theorem aI(F:Nat->List Value)(i:Nat)(x:List Value):aJ F i x i=x:=ab rfl
def mZ.mono{w:World}{base base':Nat}{T:TypeId}{sz:Nat}{v:Value}{n:Nat}{F:Nat->List Value}(h:mZ w base T sz v n F)(hb:base'<=base):mZ w base' T sz v n F:=by
 obtain⟨⟨h1,h2⟩,h3⟩:=h;refine⟨⟨h1,?_⟩,h3⟩;rcases h2 with h2|⟨g,cap,cur,hv,hg,r⟩
 .exact .inl h2
 .exact .inr ⟨g,cap,cur,hv,ar hb hg,r⟩
def ix{α:Type}[Inhabited α](l:List α)(i:Nat):α:=l.getD i default
theorem dV{α:Type}[Inhabited α]{l:List α}{i:Nat}(h:i<l.length):ix l i=l[i]:=by grind[ix]
def UH{α:Type}[Inhabited α](l:List α)(x:α)(i:Nat):ix (l++[x]) i=if i<l.length then ix l i else if i=l.length then x else default:=by grind[ix]
theorem ni{α:Type}[Inhabited α]{l:List α}{i:Nat}(h:i<l.length):ix l i∈l:=by grind[dV]
def WC{α:Type}[Inhabited α]{l:List α}{i k:Nat}(h:i<k):ix (l.take k) i=ix l i:=by grind[ix]
theorem bU{α:Type}[Inhabited α]{l:List α}{k:Nat}(h:k<l.length):l.take (k+1)=l.take k++[ix l k]:=by grind[dV,List.take_add_one]
structure C5 where
 h:Int
 r:Int
 a:R3
instance:Inhabited C5:=⟨⟨0,0,default⟩⟩
def C5.c(x:C5):List Value:=[.int .i64 x.h,.int .i64 x.r,.bool x.a.n,.string x.a.s,.string x.a.d]
structure yF where
 k:Int
 b:Bool
 a:R3
instance:Inhabited yF:=⟨⟨0,false,default⟩⟩
def yF.c(x:yF):List Value:=[.int .i64 x.k,.bool x.b,.bool x.a.n,.string x.a.s,.string x.a.d]
structure Lg where
 e:Int
 k:Int
instance:Inhabited Lg:=⟨⟨0,0⟩⟩
def Lg.c(x:Lg):List Value:=[.int .i64 x.e,.int .i64 x.k]
abbrev Ji:=List yF
abbrev fD:=List Ji
structure vZ where
 m:R3
 c:List C5
 a:List fD
instance:Inhabited vZ:=⟨⟨default,[],[]⟩⟩
structure pX where
 w:R3
 l:List Lg
instance:Inhabited pX:=⟨⟨default,[]⟩⟩
structure fH where
 e:List vZ
 d:List pX
instance:Inhabited fH:=⟨⟨[],[]⟩⟩
def Sl(w:World)(p:Nat->Prop)(sz:Nat)(v:Value)(n:Nat)(G:Nat->List Value):Prop:=
 ∃a cap,v=.slice a n cap/\n<=cap/\cap<=9223372036854775807/\(n=0\/∃b off,a=some ⟨b,off,none⟩/\p b/\b<w.heap.size/\G8 w b off sz n G)/\∀i,i<n->(G i).length=sz
theorem Sl.nil(w:World)(p:Nat->Prop)(sz:Nat)(G:Nat->List Value):Sl w p sz (.slice none 0 0) 0 G:=⟨none,0,rfl,jp,jb,.inl rfl,λi hi=>jb⟩
def Sl.mono{w:World}{p q:Nat->Prop}{sz:Nat}{v:Value}{n:Nat}{G:Nat->List Value}(h:Sl w p sz v n G)(hp:∀b,p b->q b):Sl w q sz v n G:=by obtain⟨a,cap,hv,h1,h2,h3,h4⟩:=h;refine⟨a,cap,hv,h1,h2,?_,h4⟩;grind
def Sl.keep{w w':World}{p:Nat->Prop}{sz:Nat}{v:Value}{n:Nat}{G:Nat->List Value}(h:Sl w p sz v n G)(hb:∀b,p b->b<w.heap.size->w'.heap[b]?=w.heap[b]?):Sl w' p sz v n G:=by
 obtain⟨a,cap,hv,h1,h2,h3,h4⟩:=h;refine⟨a,cap,hv,h1,h2,?_,h4⟩;rcases h3 with h3|⟨b,off,ha,hpb,hl,r⟩
 .omega
 .have e:=hb b hpb hl;refine .inr ⟨b,off,ha,hpb,?_,λi j hi hj=>?_⟩
  .grind
  .rw[World.cell?_of_block (w:=w) (a:=⟨b,off+i*sz+j,none⟩) e];exact r i j hi hj
def Sl.congr{w:World}{p:Nat->Prop}{sz:Nat}{v:Value}{n:Nat}{G G':Nat->List Value}(h:Sl w p sz v n G)(hg:∀i,i<n->G i=G' i):Sl w p sz v n G':=by
 obtain⟨a,cap,hv,h1,h2,h3,h4⟩:=h;refine⟨a,cap,hv,h1,h2,?_,λi hi=>by grind⟩;rcases h3 with h3|⟨b,off,ha,hpb,hl,r⟩
 .omega
 .exact .inr ⟨b,off,ha,hpb,hl,λi j hi hj=>by rw[<-hg i hi];exact r i j hi hj⟩
def RL{α:Type}[Inhabited α](w:World)(p:Nat->Prop)(sz:Nat)(Q:List Value->α->Prop)(v:Value)(l:List α):Prop:=
 ∃G,Sl w p sz v l.length G/\∀i,i<l.length->Q (G i) (ix l i)
theorem RL.imp{α:Type}[Inhabited α]{w w':World}{p q:Nat->Prop}{sz:Nat}{Q Q':List Value->α->Prop}{v:Value}{l:List α}(h:RL w p sz Q v l)(hp:∀b,p b->q b)
  (hb:∀b,p b->b<w.heap.size->w'.heap[b]?=w.heap[b]?) (hQ:∀c x,Q c x->Q' c x):RL w' q sz Q' v l:=by
 obtain⟨G,h1,h2⟩:=h
 exact⟨G,(h1.keep hb).mono hp,λi hi=>hQ _ _ (h2 i hi)⟩
def QV{α:Type}(c:α->List Value)(cs:List Value)(x:α):Prop:=cs=c x
def RL.plain{α:Type}[Inhabited α]{w:World}{p:Nat->Prop}{sz:Nat}{c:α->List Value}{v:Value}{l:List α}(h:RL w p sz (QV c) v l):Sl w p sz v l.length (λi=>c (ix l i)):=by obtain⟨G,h1,h2⟩:=h;exact h1.congr h2
def En(w:World)(p:Nat->Prop)(v:Value)(l:List yF):Prop:=RL w p 5 (QV yF.c) v l
def ad3(w:World)(p:Nat->Prop)(cs:List Value)(t:Ji):Prop:=∃v,cs=[v]/\En w p v t
def yG(w:World)(p:Nat->Prop)(v:Value)(l:fD):Prop:=RL w p 1 (ad3 w p) v l
structure Keeps(p:Nat->Prop)(w w':World):Prop where
 block:∀b,p b->b<w.heap.size->w'.heap[b]?=w.heap[b]?
def Keeps.of_below{p:Nat->Prop}{w w':World}(h:Below w.heap.size w w'):Keeps p w w':=⟨λb _ hb=>h.block b hb⟩
section
variable {w w' : World} {p q:Nat→Prop} {v:Value} {cs:List Value}
def En.keep{l:List yF}(h:En w p v l)(k:Keeps p w w')(hp:∀b,p b->q b):En w' q v l:=RL.imp h hp k.block λ_ _ h=>h
def ad3.keep{t:Ji}(h:ad3 w p cs t)(k:Keeps p w w')(hp:∀b,p b->q b):ad3 w' q cs t:=by obtain⟨v,e,h⟩:=h;exact⟨v,e,h.keep k hp⟩
def yG.keep{l:fD}(h:yG w p v l)(k:Keeps p w w')(hp:∀b,p b->q b):yG w' q v l:=RL.imp h hp k.block λ_ _ h=>h.keep k hp
def En.on{l:List yF}(h:En w p v l)(k:Below w.heap.size w w'):En w' p v l:=h.keep (.of_below k) λ_ h=>h
def yG.on{l:fD}(h:yG w p v l)(k:Below w.heap.size w w'):yG w' p v l:=h.keep (.of_below k) λ_ h=>h
end
def Sl.get{w:World}{p:Nat->Prop}{sz:Nat}{a:Option Addr}{n cap:Nat}{G:Nat->List Value}(h:Sl w p sz (.slice a n cap) n G)(hn:0<n):
  ∃b off,a=some ⟨b,off,none⟩/\p b/\b<w.heap.size/\G8 w b off sz n G:=by
 obtain⟨a',cap',hv,h1,h2,h3,h4⟩:=h
 grind
def Sl.form{w:World}{p:Nat->Prop}{sz:Nat}{v:Value}{n:Nat}{G:Nat->List Value}(h:Sl w p sz v n G):∃a cap,v=.slice a n cap/\n<=cap/\cap<=9223372036854775807:=by obtain⟨a,cap,hv,h1,h2,_⟩:=h;grind
def mZ.sl{w:World}{base:Nat}{T:TypeId}{sz:Nat}{v:Value}{n:Nat}{F:Nat->List Value}(h:mZ w base T sz v n F):Sl w (λb=>base<=b) sz v n F:=by
 rcases h.form with⟨rfl,rfl⟩|⟨g,cap,rfl,hb,hn,hm,hl,hr⟩
 .grind[Sl.nil]
 .exact⟨_,cap,rfl,hn,hm,.inr ⟨g,0,rfl,hb,hl,hr⟩,h.2⟩
def Sl.cellAt{w w':World}{p:Nat->Prop}{sz n:Nat}{a:Option Addr}{cap:Nat}{G:Nat->List Value}(h:Sl w p sz (.slice a n cap) n G){b off:Nat}(ha:a=some ⟨b,off,none⟩)(k:Below w.heap.size w w'){i j:Nat}(hi:i<n)(hj:j<sz):
  w'.cell? ⟨b,off+i*sz+j,none⟩=(G i)[j]?:=by
 obtain⟨b',off',ha',-,hl,hr⟩:=h.get jb
 rw[ha]at ha'
 simp only[aT,Addr.mk.injEq,and_true]at ha'
 obtain⟨rfl,rfl⟩:=ha'
 exact(hr.below k hl) i j hi hj
end Go.Proofs.Ins
namespace Go.Proofs.Xe
open Go.RowKit Go.Proofs.Ins
def zk(N:Nat):Value->B
 |.int k n=>.int k n
 |.bool b=>.bool b
 |.string s=>.str s
 |.pointer (some a)=>if a.spot=none/\a.block<N then .ptr a.block a.off else .any
 |.pointer none=>.VU
 |.slice (some a) n K=>if K<=9223372036854775807 then(if a.spot=none/\a.block<N/\n<=K then .sl a.block a.off n .any else if n=0 then .sl 0 0 0 .any else .any)else .any
 |.slice none 0 0=>.aO
 |_=>.any
def Ph.id(N:Nat):Ph:=λb=>if b<N then some (b,0)else none
theorem FK(N:Nat)(v:Value)(h:(zk N v).kn=true):RB (Ph.id N) (zk N v) v:=by
 unfold zk at h⊢;split at h<;>try rfl
 .next a=>
  split at h
  .next hc=>
   rw[ab hc];obtain⟨b,o,s⟩:=a;obtain⟨h1,h2⟩:=hc;dsimp only at h1 h2;subst h1;exact⟨(b,0),ab h2,rfl⟩
  .cases h
 .next a n K=>
  split at h
  .next hK=>
   rw[ab hK];split at h
   .next hc=>
    rw[ab hc];obtain⟨b,o,s⟩:=a;obtain⟨h1,h2,h3⟩:=hc;dsimp only at h1 h2;subst h1;exact .inl ⟨(b,0),K,ab h2,rfl,h3,hK,trivial⟩
   .next hc=>
    rw[ae hc];split at h
    .next h0=>
     subst h0;rw[ab rfl];exact .inr ⟨rfl,rfl,a,K,rfl,hK⟩
    .cases h
  .cases h
 .cases h
def St.of(w:World):St:=⟨.fn λb=>match w.heap[b]? with|some (.cells cs _ _)=>some ⟨cs.toList.map (zk w.heap.size),some (0,1)⟩|_=>none,w.heap.size⟩
def WF.of(w:World):WF (St.of w):=λb hb=>by have hb:w.heap.size<=b:=hb;show(match w.heap[b]? with|some (.cells cs _ _)=>some _|_=>none)=none;grind
def Rel.of(w:World):Rel w.heap.size w (Ph.id w.heap.size) (St.of w) w where
 n0:=jp
 bel:=Below.refl _ _
 inj:=λb b' p p' h1 _ _ hN _ _=>by grind[Ph.id]
 lo:=λb p h=>by grind[Ph.id]
 fz:=λb k p hk _ _=>by
  have hk:(match w.heap[b]? with|some (.cells cs _ _)=>some (⟨cs.toList.map (zk w.heap.size),some (0,1)⟩:Bk)|_=>none)=some k:=hk;split at hk
  .cases hk;exact⟨rfl,rfl⟩
  grind
 blk:=λb k p hk hp=>by
  have hp':p.1=b/\b<w.heap.size:=by grind[Ph.id]
  have hk:(match w.heap[b]? with|some (.cells cs _ _)=>some (⟨cs.toList.map (zk w.heap.size),some (0,1)⟩:Bk)|_=>none)=some k:=hk;split at hk
  .next cs T z hcs=>
   cases hk;refine .inr (.inr ⟨rfl,rfl,λj x hj hx=>?_⟩);grind[Go.Proofs.Xe.FK,Go.World.cell?]
  grind
 aj:=λb hb=>by have hb:w.heap.size<=b:=hb;refine⟨ae jb,?_⟩;show(match w.heap[b]? with|some (.cells cs _ _)=>some _|_=>none)=none;grind
def aye{w:World}{b o n:Nat}{l:List Value}(hn:l.length=n)(h0:0<n)(h:∀j v,l[j]?=some v->w.cell? ⟨b,o+j,none⟩=some v)(hk:∀v∈l,(zk w.heap.size v).kn=true):
  ld (St.of w).h b o n true=some (.agg (l.map (zk w.heap.size))):=by
 have hc:∃cs T z,w.heap[b]?=some (.cells cs T z)/\(cs.toList.drop o).take n=l:=by
  match l,hn with
  |v::l',hn=>
   have h1:=h 0 v rfl
   unfold World.cell? at h1
   dsimp only at h1
   split at h1
   .next cs T z e=>
    refine⟨cs,T,z,e,?_⟩
    apply List.ext_getElem?
    grind[Go.World.cell?]
   grind
  |[],hn=>simp at hn;omega
 obtain⟨cs,T,z,e,hl⟩:=hc
 have hg:(St.of w).h b=some ⟨cs.toList.map (zk w.heap.size),some (0,1)⟩:=by show(match w.heap[b]? with|some (.cells cs _ _)=>some (⟨cs.toList.map (zk w.heap.size),some (0,1)⟩:Bk)|_=>none)=_;rw[e]
 unfold ld
 rw[hg]
 show(bif true then _ else _)=_
 grind[yZ,List.map_drop,List.map_take,Y2]
def ad4(N:Nat)(a:Addr)(n K:Nat):zk N (.slice (some a) n K)=if K<=9223372036854775807 then(if a.spot=none/\a.block<N/\n<=K then .sl a.block a.off n .any else if n=0 then .sl 0 0 0 .any else .any)else .any:=rfl
def HL.of{w:World}{a:Option Addr}{n cap e:Nat}{F:Nat->List Value}(h:afC w a n e F)(hf:(a=none/\n=0/\cap=0)\/∃x,a=some x)(hn:n<=cap)(hc:cap<=9223372036854775807)(he:0<e)(hF:∀i,i<n->(F i).length=e)(hk:∀i,i<n->∀v∈F i,(zk w.heap.size v).kn=true):
  HL (St.of w).h e (zk w.heap.size (.slice a n cap)) n λi=>(F i).map (zk w.heap.size):=by
 rcases hf with⟨rfl,rfl,rfl⟩|⟨x,rfl⟩
 .exact .inl ⟨rfl,rfl⟩
 .by_cases h0:n=0
  .subst h0
   rw[ad4,ab hc]
   split
   .exact .inr ⟨_,_,_,rfl,λi hi=>jb⟩
   .rw[ab rfl];exact .inr ⟨_,_,_,rfl,λi hi=>jb⟩
  .rcases h with h|⟨b,off,e1,hb,hr⟩
   .omega
   .cases e1
    rw[ad4,ab hc,ab ⟨rfl,hb,hn⟩]
    refine .inr ⟨_,_,_,rfl,λi hi=>aye (hF i hi) he (λj v hj=>?_) (hk i hi)⟩
    have hlt:j<e:=by grind
    have:=hr i j hi hlt
    grind
end Go.Proofs.Xe
end
