import Derived.Test.YthkggcakedkboaaGreatDoorZ26
set_option linter.all false
namespace Go.Proofs.Xe
open Go.RowKit Go.Proofs.Ins
structure auU(D:Nat)(g:gZ)(x:Nat->Rat):Prop where
 hD:Bz D
 n:g.e.length<=1000
 d:g.d.length<=1000
 e:∀i,i<g.e.length->EOk D (kE g.e i) (dJ (ix g.e i))/\MOk D (dJ (ix g.e i)) (x i)/\Sz (rE (ix g.e i) (kE g.e i))/\Sz (x i-rE (ix g.e i) (kE g.e i))
 k:∀i,i<g.e.length->kE g.e i<=1000
 w:∀d,d<g.d.length->(ix g.d d).w.fits 1000000/\0<=(ix g.d d).w.q/\Zk D 1 (ix g.d d).w.q
 l:∀d,d<g.d.length->(ix g.d d).l.length<=1000/\∀k,k<(ix g.d d).l.length->∃e c:Nat,ix (ix g.d d).l k=⟨.ofNat e,.ofNat c⟩/\e<g.e.length/\c<kE g.e e
 q:∀i,i<g.e.length->∀c,c<kE g.e i->0<=gq (bD g) x (i,c)/\Zk D 1 (gq (bD g) x (i,c))
 r:∀i,i<g.e.length->∀c,c<kE g.e i->Sz (xH (bD g) x (i,c))
 nd:(bD g).dU.Nodup
def grF(g:gZ)(x:Nat->Rat)(i c:Nat):Rat:=yU (dJ (ix g.e i)) (x i) c
def PD(g:gZ)(x:Nat->Rat)(i c:Nat):Rat:=sU (dJ (ix g.e i)) (x i) c
def suF(g:gZ)(x:Nat->Rat)(i:Nat):Rat:=GV (x i-rE (ix g.e i) (kE g.e i)) 0
def rsF(g:gZ)(x:Nat->Rat)(i:Nat):Rat:=ZO (dJ (ix g.e i)) (x i)
def fuF(g:gZ)(x:Nat->Rat)(i:Nat):Bool:=decide (0<=oO (x i) (rE (ix g.e i) (kE g.e i)))
def sG(g:gZ)(x:Nat->Rat)(T:Nat->Nat->B)(bs:Nat->Nat):Nat->Nat->List B
 |1=>λi=>[T 1 i]
 |2=>λi=>[T 2 i]
 |3=>λi=>[xP (kE g.e) bs i]
 |4=>λi=>[T 4 i]
 |5=>λi=>gY (suF g x i)
 |6=>λi=>gY (rsF g x i)
 |7=>λi=>[.bool (fuF g x i)]
 |_=>λ_=>[]
def sE:Nat->Nat
 |1=>1
 |2=>1
 |3=>1
 |4=>1
 |5=>3
 |6=>3
 |7=>1
 |_=>0
def sT:Nat->Nat
 |1=>30
 |2=>30
 |3=>30
 |4=>30
 |5=>42
 |6=>42
 |7=>4
 |_=>0
def sQ(g:gZ)(x:Nat->Rat)(T:Nat->Nat->B):Nat->(Nat->Prop)->Tr Bk->Nat->Prop
 |1=>Pz (T 1) (kE g.e) (grF g x)
 |2=>Pz (T 2) (kE g.e) (PD g x)
 |4=>Pz (T 4) (kE g.e) λi c=>Jg (bD g) x (i,c)
 |_=>NoQ
def Oo(g:gZ)(x:Nat->Rat)(T:Nat->Nat->B)(bs:Nat->Nat)(k:Nat):LG (sG g x T bs k) (sE k):=by intro j;unfold sG sE;split<;>rfl
def PE(g:gZ)(x:Nat->Rat)(T:Nat->Nat->B)(k j:Nat):QK (sQ g x T k) j:=by
 unfold sQ;split
 .exact Dk _ _ _ j
 .exact Dk _ _ _ j
 .exact Dk _ _ _ j
 .exact JK j
def rH(T:Nat->Nat->B)(k i:Nat)(v:B):Nat->Nat->B:=λk' j=>if k'=k/\j=i then v else T k' j
def KZ{T:Nat->Nat->B}{k i k' j:Nat}(h:k'≠k\/j≠i)(v:B):rH T k i v k' j=T k' j:=ae jb
def mM(T:Nat->Nat->B)(k i:Nat)(v:B):rH T k i v k i=v:=ab ⟨rfl,rfl⟩
def aam{g:gZ}{x:Nat->Rat}{T:Nat->Nat->B}{bs:Nat->Nat}{k i:Nat}{v:B}{k' j:Nat}(h:k'=k->j<i):sG g x (rH T k i v) bs k' j=sG g x T bs k' j:=by
 have hu:∀a,k'=a->rH T k i v a j=T a j:=λa e=>KZ (by by_cases e2:a=k;exact .inr (by have:=h (e.trans e2);omega);exact .inl e2) v;unfold sG;split
 .show [rH T k i v 1 j]=_;rw[hu 1 rfl]
 .show [rH T k i v 2 j]=_;rw[hu 2 rfl]
 .rfl
 .show [rH T k i v 4 j]=_;rw[hu 4 rfl]
 .rfl
 .rfl
 .rfl
 .rfl
def aan{g:gZ}{x:Nat->Rat}{T:Nat->Nat->B}{k i:Nat}{v:B}{k' j:Nat}(h:k'=k->j<i){p:Nat->Prop}{H:Tr Bk}(hq:sQ g x T k' p H j):sQ g x (rH T k i v) k' p H j:=by
 have hu:∀a,k'=a->rH T k i v a j=T a j:=λa e=>KZ (by by_cases e2:a=k;exact .inr (by have:=h (e.trans e2);omega);exact .inl e2) v;unfold sQ at hq⊢;split
 .show aY _ _ _ (rH T k i v 1 j) _ _;rw[hu 1 rfl];exact hq
 .show aY _ _ _ (rH T k i v 2 j) _ _;rw[hu 2 rfl];exact hq
 .show aY _ _ _ (rH T k i v 4 j) _ _;rw[hu 4 rfl];exact hq
 .trivial
def arv{g:gZ}{x:Nat->Rat}{T:Nat->Nat->B}{bs:Nat->Nat}{m nb j:Nat}(k:Nat)(h:k=3->j<m):sG g x T (aN bs m nb) k j=sG g x T bs k j:=by
 unfold sG;split
 .rfl
 .rfl
 .show [xP _ _ j]=_;have:=h rfl;rw[XB jb]
 all_goals rfl
def Dp(cm:B)(nn bb:Nat->Nat):List B:=[cm,aU (nn 1) (bb 1),aU (nn 2) (bb 2),aU (nn 3) (bb 3),aU (nn 4) (bb 4),aU (nn 5) (bb 5),aU (nn 6) (bb 6),aU (nn 7) (bb 7)]
def rC(R:Nat->Nat->Rat)(i c:Nat):List B:=gY (R i c)
abbrev AB(g:gZ)(x:Nat->Rat)(p:Nat->Prop)(h:Tr Bk)(nn bb:Nat->Nat)(T:Nat->Nat->B)(m:Nat)(R:Nat->Nat->Rat)(bs:Nat->Nat)(lo hi:Nat):Prop:=uy p h nn bb (sG g x T bs) sE sT (sQ g x T) m (kE g.e) (rC R) bs lo hi
def rU(i m:Nat):Nat->Nat
 |1=>i
 |2=>i
 |3=>i
 |4=>m
 |5=>i
 |6=>i
 |7=>i
 |_=>0
def aao(tm:Tr V)(rb sb mb n ob i lb xb:Nat)(lv dv:B):Prop:=Tr.ah tm 0=.c (.ptr sb 0)/\Tr.ah tm 1=.c (.sl mb 0 n (.ex n))/\Tr.ah tm 4=.c (.ptr rb 0)/\Tr.ah tm 5=.c (.ptr ob 0)/\Tr.ah tm 6=.c (.int .i64 (.ofNat i))/\Tr.ah tm 7=.c (.ptr lb 0)/\Tr.ah tm 8=.c dv/\Tr.ah tm 9=.c (.ptr xb 0)/\Tr.ah tm 25=.c lv/\Tr.ah tm 26=.c (.int .i64 (.ofNat n))/\Tr.ah tm 27=.c (.int .i64 (.ofNat i))
structure aap(σ:St)(g:gZ)(x:Nat->Rat)(cm:B)(ob i:Nat)(LB:List B)(lb xb:Nat)(dv:B)(nn:Nat->Nat)(m:Nat)(p:Nat->Prop)(bb:Nat->Nat)(T:Nat->Nat->B)(bs:Nat->Nat)(σ5:St):Prop where
 o:σ5.h ob=some ⟨Dp cm nn bb,none⟩
 l:σ5.h lb=some ⟨LB,none⟩
 rx:σ5.h xb=some ⟨gY (rsF g x i),none⟩
 pl:p lb
 px:p xb
 d:iL p σ5.h dv (kE g.e i) (PD g x i)
 S:AB g x p σ5.h nn bb T m (λ_ _=>0) bs (ob+1) σ5.aj
 f:Fr σ σ5
 n:ob+1<=σ5.aj
section
variable {σ σ5:St} {g:gZ} {x:Nat→Rat} {cm:B} {ob i:Nat} {LB:List B} {lb xb:Nat} {dv:B} {nn:Nat→Nat} {m:Nat} {p p' : Nat→Prop} {bb:Nat→Nat} {T T' : Nat→Nat→B} {bs:Nat→Nat}
def aap.push(H:aap σ g x cm ob i LB lb xb dv nn m p bb T bs σ5)(k:Nat){hi1 nx n':Nat}{h1 h':Tr Bk}(hp:∀b,p b->p' b)(hp2:∀b,p' b->p b\/σ5.aj<=b/\b<hi1)(hQQ:∀k' j,j<nn k'->∀p h,sQ g x T k' p h j->sQ g x T' k' p h j)(hG:∀k' j,j<nn k'->sG g x T' bs k' j=sG g x T bs k' j)(hx:sQ g x T' k p' h1 (nn k))(hh:∀b,b<σ5.aj->h1 b=σ5.h b)
  (h2:σ5.aj<=hi1) (h3:hi1<=nx) (h4:nx<n'){y:List B}(hb:h' nx=some ⟨bK (nn k) (sG g x T bs k)++y,some (sE k,sT k)⟩) (hgn:y=sG g x T' bs k (nn k)) (hk:∀c,c≠ob->c<hi1->nn k=0\/c≠bb k->h' c=h1 c) (ho:h' ob=some ⟨Dp cm (aN nn k (nn k+1)) (aN bb k nx),none⟩) (hf:Fr σ ⟨h',n'⟩):
  aap σ g x cm ob i LB lb xb dv (aN nn k (nn k+1)) m p' (aN bb k nx) T' bs ⟨h',n'⟩:=by
 have hn:=H.n
 have hS:=H.S.push k hp hp2 (PE g x T') hQQ hG (Oo g x T' bs) hx (λb _ hb=>hh b hb) h2 h3 h4 hn hb hgn λc hc h5 h6=>hk c jb h5 h6
 have hs:=H.S.same k (λb _ hb=>hh b hb) h2 λc hc h5 h6=>hk c jb h5 h6
 exact⟨ho,(hs _ H.pl).trans H.l,(hs _ H.px).trans H.rx,hp _ H.pl,hp _ H.px,aY.keep H.d hs hp,hS,hf,by show ob+1<=n';omega⟩
def aap.pushRow(H:aap σ g x cm ob i LB lb xb dv nn m p bb T bs σ5)(hm:nn 3<=m){hi1 nx n' nb:Nat}{h1 h':Tr Bk}(hh:∀b,b<σ5.aj->h1 b=σ5.h b)(h2:σ5.aj<=hi1)(h3:hi1<=nx)(h4:nx<n'){y:List B}(hb:h' nx=some ⟨bK (nn 3) (sG g x T bs 3)++y,some (1,30)⟩)(hgn:y=[xP (kE g.e) (aN bs m nb) (nn 3)])(hk:∀c,c≠ob->c<hi1->nn 3=0\/c≠bb 3->h' c=h1 c)(ho:h' ob=some ⟨Dp cm (aN nn 3 (nn 3+1)) (aN bb 3 nx),none⟩)(hf:Fr σ ⟨h',n'⟩)
  (h6:σ5.aj<=nb) (h7:nb<hi1) (hr:h' nb=some ⟨bK (kE g.e m) λ_=>gY 0,none⟩):
  aap σ g x cm ob i LB lb xb dv (aN nn 3 (nn 3+1)) (m+1) p (aN bb 3 nx) T (aN bs m nb) ⟨h',n'⟩:=by
 have hn:=H.n
 have hS:=H.S.pushRow 3 (PE g x T) (λ_ _ _ _ _ h=>h) (λk j hj=>arv (m:=m) (nb:=nb) k λe=>by subst e;omega) (Oo g x T _) trivial (λb _ hb=>hh b hb) h2 h3 h4 hn hb hgn (λc hc h5 h6=>hk c jb h5 h6) h6 h7 hr
 have hs:=H.S.same 3 (λb _ hb=>hh b hb) h2 λc hc h5 h6=>hk c jb h5 h6
 exact⟨ho,(hs _ H.pl).trans H.l,(hs _ H.px).trans H.rx,H.pl,H.px,aY.keep H.d hs λ_ h=>h,hS,hf,by show ob+1<=n';omega⟩
end
def dW(g:gZ)(j:Nat):Rat:=(ix g.d j).w.q
def dL(g:gZ)(j:Nat):List fA:=(ix g.d j).l.map yV
def UH(g:gZ)(x:Nat->Rat)(j:Nat)(l:fA):Rat:=aI ((bD g).ds.take j) λd=>vg d.1 (gq (bD g) x) 0 d.2 l
def FH(g:gZ)(x:Nat->Rat)(j k:Nat)(i c:Nat):Rat:=UH g x j (i,c)+vg (dW g j) (gq (bD g) x) 0 ((dL g j).take k) (i,c)
theorem Oq{g:gZ}{j:Nat}(h:j<g.d.length):ix (bD g).ds j=(dW g j,dL g j):=Xt (λd:xK=>(d.w.q,d.l.map yV)) h
theorem xI(g:gZ):(bD g).ds.length=g.d.length:=cY _
def QW{g:gZ}(x:Nat->Rat){j:Nat}(h:j<g.d.length)(l:fA):UH g x (j+1) l=UH g x j l+vg (dW g j) (gq (bD g) x) 0 (dL g j) l:=by unfold UH;rw[bJ (by rw[xI];exact h),mG,Oq h]
def XH(g:gZ)(x:Nat->Rat)(l:fA):UH g x g.d.length l=xH (bD g) x l:=by unfold UH xH;rw[<-xI,ck]
def Jk(g:gZ)(x:Nat->Rat)(j:Nat):FH g x j 0=λi c=>UH g x j (i,c):=by funext i c;unfold FH;rw[cI];exact cV _
def ail{g:gZ}(x:Nat->Rat){j:Nat}(h:j<g.d.length):FH g x j (ix g.d j).l.length=FH g x (j+1) 0:=by rw[Jk];funext i c;rw[QW x h];unfold FH;have:(ix g.d j).l.length=(dL g j).length:=(cY _).symm;rw[this,ck]
theorem Ot{f:fA->Rat}{t:List fA}:∀{k:Nat},k<=t.length->aB k (λi=>f (ix t i))=aI (t.take k) f
 |0,_=>rfl
 |k+1,h=>by rw[bJ jb,mG,<-Ot jb];rfl
def amx{g:gZ}(hn:(bD g).dU.Nodup){j:Nat}(hj:j<g.d.length){k:Nat}(hk:k<(dL g j).length):(∀d∈(bD g).ds.take j,ix (dL g j) k∉d.2)/\ix (dL g j) k∉(dL g j).take k:=by
 unfold GL.dU at hn;have h1:(bD g).ds=(bD g).ds.take j++(dW g j,dL g j)::(bD g).ds.drop (j+1):=by rw[<-Oq hj,<-KH (by rw[xI];exact hj),List.take_append_drop]
 rw[h1,cM,ii,gw]at hn;obtain⟨-,h2,h3⟩:=hn;refine⟨λd hd hm=>h3 _ (cE.mpr ⟨d,hd,hm⟩) _ (ir _ (lJ hk)) rfl,λhm=>?_⟩;rw[gw]at h2;have h4:=h2.1;have h5:(dL g j)=(dL g j).take k++ix (dL g j) k::(dL g j).drop (k+1):=by rw[<-KH hk,List.take_append_drop]
 have h4:(dL g j).Nodup:=h4;rw[h5,gw]at h4;exact h4.2.2 _ hm _ kc rfl
def ain{g:gZ}(x:Nat->Rat)(hn:(bD g).dU.Nodup){j:Nat}(hj:j<g.d.length){k:Nat}(hk:k<(ix g.d j).l.length){e c:Nat}(Eu:ix (ix g.d j).l k=⟨.ofNat e,.ofNat c⟩):
  qW (rC (FH g x j k)) e c (gY (aem (dW g j) (λk=>gq (bD g) x (yV (ix (ix g.d j).l k))) k))=rC (FH g x j (k+1)):=by
 have hlen:(dL g j).length=(ix g.d j).l.length:=cY _
 have hix:∀k,k<(ix g.d j).l.length->ix (dL g j) k=yV (ix (ix g.d j).l k):=λk hk=>Xt yV hk
 have hl:ix (dL g j) k=(e,c):=by rw[hix k hk,Eu];rfl
 obtain⟨h1,h2⟩:=amx hn hj (by rw[hlen];exact hk)
 rw[hl]at h1 h2
 have h3:UH g x j (e,c)=0:=iG λd hd=>UE (h1 d hd)
 have hs:∀m,m<=(ix g.d j).l.length->aB m (λk=>gq (bD g) x (yV (ix (ix g.d j).l k)))=aI ((dL g j).take m) (gq (bD g) x):=λm hm=>by rw[<-Ot jb];exact aK λi hi=>by rw[hix i jb]
 funext i' c'
 unfold qW rC FH
 rw[bJ jb,QS,hl]
 by_cases h:i'=e/\c'=c
 .rw[ab h,h.1,h.2,ab rfl,h3,UE h2]
  unfold aem
  rw[hs k jb,hs (k+1) jb,bJ jb,mG,hl]
  simp only[gi]
 .rw[ae h,ae λe=>h ⟨(Prod.mk.inj e).1.symm,(Prod.mk.inj e).2.symm⟩]
  simp only[cV]
def aio(n i:Nat):rU n (i+1)=aN (rU n i) 4 (rU n i 4+1):=by
 funext k;unfold aN;by_cases h:k=4
 .subst h;rfl
 .rw[ae h];unfold rU;split<;>first|rfl|omega
section
variable {g:gZ} {x:Nat→Rat} {p:Nat→Prop} {h:Tr Bk} {nn bb:Nat→Nat} {T:Nat→Nat→B} {m:Nat} {R:Nat→Nat→Rat} {bs:Nat→Nat} {lo hi:Nat}
def AB.rows(hS:AB g x p h nn bb T m R bs lo hi){k:Nat}{f:Nat->Nat->Rat}(hE:sE k=1)(hG:∀j,sG g x T bs k j=[T k j])(hQ:∀j,sQ g x T k p h j->Pz (T k) (kE g.e) f p h j){q:Nat->Prop}(hq:∀b,lo<=b->b<hi->q b):dP q h (aU (nn k) (bb k)) (nn k) (kE g.e) f:=by have hel:=λi (hi:i<nn k)=>hQ i (hS.f.q k i hi);have h1:=hS.f.hlp k (q:=q) jb (λj hj=>by rw[hG j];simp only[cT,et,aY.kn (hel j hj),dT]) hq;rw[hE]at h1;exact⟨T k,h1.congr λi _=>hG i,λi hi=>aY.keep (hel i hi) (λ_ _=>rfl) λb hb=>hq b (hS.f.pp b hb).1 (hS.f.pp b hb).2⟩
def AB.row(hS:AB g x p h nn bb T m R bs lo hi){n i:Nat}(hn:nn 3=n)(hi:i<n):ld h (bb 3) (i*1) 1 false=some (.c (.sl (bs i) 0 (kE g.e i) (.ex (kE g.e i)))):=by obtain⟨b7,o7,c7,e7,-,dI⟩:=aY.pos (hS.f.hlp 3 (q:=λ_=>True) jj (λ_ _=>rfl) λ_ _ _=>trivial) (show 0<nn 3 by omega);rw[rF jb]at e7;cases e7;have:=(uX (dI i jb)).1;rw[cP]at this;exact this
end
end Go.Proofs.Xe
