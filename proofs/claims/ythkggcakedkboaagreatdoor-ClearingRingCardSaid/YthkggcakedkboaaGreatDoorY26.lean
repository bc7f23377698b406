import Derived.Test.YthkggcakedkboaaGreatDoorY25
set_option linter.all false
namespace Go.Proofs.Xe
open Go.RowKit Go.Proofs.Ins
structure asX(D:Nat)(g:iD)(x:Nat->Rat):Prop where
 hD:Ah D
 n:g.e.length<=1000
 d:g.d.length<=1000
 e:∀i,i<g.e.length->EOk D (kE g.e i) (dB (ix g.e i))/\MOk D (dB (ix g.e i)) (x i)/\Sz (qp (ix g.e i) (kE g.e i))/\Sz (x i-qp (ix g.e i) (kE g.e i))
 k:∀i,i<g.e.length->kE g.e i<=1000
 w:∀d,d<g.d.length->(ix g.d d).w.fits 1000000/\0<=(ix g.d d).w.q/\Zk D 1 (ix g.d d).w.q
 l:∀d,d<g.d.length->(ix g.d d).l.length<=1000/\∀k,k<(ix g.d d).l.length->∃e c:Nat,ix (ix g.d d).l k=⟨.ofNat e,.ofNat c⟩/\e<g.e.length/\c<kE g.e e
 q:∀i,i<g.e.length->∀c,c<kE g.e i->0<=gq (aY g) x (i,c)/\Zk D 1 (gq (aY g) x (i,c))
 r:∀i,i<g.e.length->∀c,c<kE g.e i->Sz (Ii (aY g) x (i,c))
 nd:(aY g).eH.Nodup
def grF(g:iD)(x:Nat->Rat)(i c:Nat):Rat:=xY (dB (ix g.e i)) (x i) c
def Oq(g:iD)(x:Nat->Rat)(i c:Nat):Rat:=qC (dB (ix g.e i)) (x i) c
def suF(g:iD)(x:Nat->Rat)(i:Nat):Rat:=FD (x i-qp (ix g.e i) (kE g.e i)) 0
def rsF(g:iD)(x:Nat->Rat)(i:Nat):Rat:=YC (dB (ix g.e i)) (x i)
def fuF(g:iD)(x:Nat->Rat)(i:Nat):Bool:=decide (0<=oJ (x i) (qp (ix g.e i) (kE g.e i)))
def sG(g:iD)(x:Nat->Rat)(T:Nat->Nat->B)(bs:Nat->Nat):Nat->Nat->List B
 |1=>λi=>[T 1 i]
 |2=>λi=>[T 2 i]
 |3=>λi=>[wL (kE g.e) bs i]
 |4=>λi=>[T 4 i]
 |5=>λi=>gK (suF g x i)
 |6=>λi=>gK (rsF g x i)
 |7=>λi=>[.bool (fuF g x i)]
 |_=>λ_=>[]
def sE:Nat->Nat
 |1=>1
 |2=>1
 |3=>1
 |4=>1
 |5=>3
 |6=>3
 |7=>1
 |_=>0
def sT:Nat->Nat
 |1=>30
 |2=>30
 |3=>30
 |4=>30
 |5=>42
 |6=>42
 |7=>4
 |_=>0
def sQ(g:iD)(x:Nat->Rat)(T:Nat->Nat->B):Nat->(Nat->Prop)->Tr Bk->Nat->Prop
 |1=>Oo (T 1) (kE g.e) (grF g x)
 |2=>Oo (T 2) (kE g.e) (Oq g x)
 |4=>Oo (T 4) (kE g.e) λi c=>Y1 (aY g) x (i,c)
 |_=>NoQ
def Nj(g:iD)(x:Nat->Rat)(T:Nat->Nat->B)(bs:Nat->Nat)(k:Nat):LG (sG g x T bs k) (sE k):=by intro j;unfold sG sE;split<;>rfl
def Ot(g:iD)(x:Nat->Rat)(T:Nat->Nat->B)(k j:Nat):QK (sQ g x T k) j:=by
 unfold sQ;split
 .exact BU _ _ _ j
 .exact BU _ _ _ j
 .exact BU _ _ _ j
 .exact IX j
def qx(T:Nat->Nat->B)(k i:Nat)(v:B):Nat->Nat->B:=λk' j=>if k'=k/\j=i then v else T k' j
def JR{T:Nat->Nat->B}{k i k' j:Nat}(h:k'≠k\/j≠i)(v:B):qx T k i v k' j=T k' j:=ab jb
def lQ(T:Nat->Nat->B)(k i:Nat)(v:B):qx T k i v k i=v:=ae ⟨rfl,rfl⟩
def Y6{g:iD}{x:Nat->Rat}{T:Nat->Nat->B}{bs:Nat->Nat}{k i:Nat}{v:B}{k' j:Nat}(h:k'=k->j<i):sG g x (qx T k i v) bs k' j=sG g x T bs k' j:=by
 have hu:∀a,k'=a->qx T k i v a j=T a j:=λa e=>JR (by by_cases e2:a=k;exact .inr (by have:=h (e.trans e2);omega);exact .inl e2) v;unfold sG;split
 .show [qx T k i v 1 j]=_;rw[hu 1 rfl]
 .show [qx T k i v 2 j]=_;rw[hu 2 rfl]
 .rfl
 .show [qx T k i v 4 j]=_;rw[hu 4 rfl]
 .rfl
 .rfl
 .rfl
 .rfl
def Y7{g:iD}{x:Nat->Rat}{T:Nat->Nat->B}{k i:Nat}{v:B}{k' j:Nat}(h:k'=k->j<i){p:Nat->Prop}{H:Tr Bk}(hq:sQ g x T k' p H j):sQ g x (qx T k i v) k' p H j:=by
 have hu:∀a,k'=a->qx T k i v a j=T a j:=λa e=>JR (by by_cases e2:a=k;exact .inr (by have:=h (e.trans e2);omega);exact .inl e2) v;unfold sQ at hq⊢;split
 .show aZ _ _ _ (qx T k i v 1 j) _ _;rw[hu 1 rfl];exact hq
 .show aZ _ _ _ (qx T k i v 2 j) _ _;rw[hu 2 rfl];exact hq
 .show aZ _ _ _ (qx T k i v 4 j) _ _;rw[hu 4 rfl];exact hq
 .trivial
def apM{g:iD}{x:Nat->Rat}{T:Nat->Nat->B}{bs:Nat->Nat}{m nb j:Nat}(k:Nat)(h:k=3->j<m):sG g x T (aT bs m nb) k j=sG g x T bs k j:=by
 unfold sG;split
 .rfl
 .rfl
 .show [wL _ _ j]=_;have:=h rfl;rw[V4 jb]
 all_goals rfl
def BX(cm:B)(nn bb:Nat->Nat):List B:=[cm,aQ (nn 1) (bb 1),aQ (nn 2) (bb 2),aQ (nn 3) (bb 3),aQ (nn 4) (bb 4),aQ (nn 5) (bb 5),aQ (nn 6) (bb 6),aQ (nn 7) (bb 7)]
def rC(R:Nat->Nat->Rat)(i c:Nat):List B:=gK (R i c)
abbrev zO(g:iD)(x:Nat->Rat)(p:Nat->Prop)(h:Tr Bk)(nn bb:Nat->Nat)(T:Nat->Nat->B)(m:Nat)(R:Nat->Nat->Rat)(bs:Nat->Nat)(lo hi:Nat):Prop:=sH p h nn bb (sG g x T bs) sE sT (sQ g x T) m (kE g.e) (rC R) bs lo hi
def qJ(i m:Nat):Nat->Nat
 |1=>i
 |2=>i
 |3=>i
 |4=>m
 |5=>i
 |6=>i
 |7=>i
 |_=>0
def Y8(tm:Tr V)(rb sb mb n ob i lb xb:Nat)(lv dv:B):Prop:=Tr.ah tm 0=.c (.ptr sb 0)/\Tr.ah tm 1=.c (.sl mb 0 n (.ex n))/\Tr.ah tm 4=.c (.ptr rb 0)/\Tr.ah tm 5=.c (.ptr ob 0)/\Tr.ah tm 6=.c (.int .i64 (.ofNat i))/\Tr.ah tm 7=.c (.ptr lb 0)/\Tr.ah tm 8=.c dv/\Tr.ah tm 9=.c (.ptr xb 0)/\Tr.ah tm 25=.c lv/\Tr.ah tm 26=.c (.int .i64 (.ofNat n))/\Tr.ah tm 27=.c (.int .i64 (.ofNat i))
structure Y9(σ:St)(g:iD)(x:Nat->Rat)(cm:B)(ob i:Nat)(LB:List B)(lb xb:Nat)(dv:B)(nn:Nat->Nat)(m:Nat)(p:Nat->Prop)(bb:Nat->Nat)(T:Nat->Nat->B)(bs:Nat->Nat)(σ5:St):Prop where
 o:σ5.h ob=some ⟨BX cm nn bb,none⟩
 l:σ5.h lb=some ⟨LB,none⟩
 rx:σ5.h xb=some ⟨gK (rsF g x i),none⟩
 pl:p lb
 px:p xb
 d:jB p σ5.h dv (kE g.e i) (Oq g x i)
 S:zO g x p σ5.h nn bb T m (λ_ _=>0) bs (ob+1) σ5.aj
 f:Fr σ σ5
 n:ob+1<=σ5.aj
section
variable {σ σ5:St} {g:iD} {x:Nat→Rat} {cm:B} {ob i:Nat} {LB:List B} {lb xb:Nat} {dv:B} {nn:Nat→Nat} {m:Nat} {p p' : Nat→Prop} {bb:Nat→Nat} {T T' : Nat→Nat→B} {bs:Nat→Nat}
def Y9.push(H:Y9 σ g x cm ob i LB lb xb dv nn m p bb T bs σ5)(k:Nat){hi1 nx n':Nat}{h1 h':Tr Bk}(hp:∀b,p b->p' b)(hp2:∀b,p' b->p b\/σ5.aj<=b/\b<hi1)(hQQ:∀k' j,j<nn k'->∀p h,sQ g x T k' p h j->sQ g x T' k' p h j)(hG:∀k' j,j<nn k'->sG g x T' bs k' j=sG g x T bs k' j)(hx:sQ g x T' k p' h1 (nn k))(hh:∀b,b<σ5.aj->h1 b=σ5.h b)
  (h2:σ5.aj<=hi1) (h3:hi1<=nx) (h4:nx<n'){y:List B}(hb:h' nx=some ⟨dF (nn k) (sG g x T bs k)++y,some (sE k,sT k)⟩) (hgn:y=sG g x T' bs k (nn k)) (hk:∀c,c≠ob->c<hi1->nn k=0\/c≠bb k->h' c=h1 c) (ho:h' ob=some ⟨BX cm (aT nn k (nn k+1)) (aT bb k nx),none⟩) (hf:Fr σ ⟨h',n'⟩):
  Y9 σ g x cm ob i LB lb xb dv (aT nn k (nn k+1)) m p' (aT bb k nx) T' bs ⟨h',n'⟩:=by
 have hn:=H.n
 have hS:=H.S.push k hp hp2 (Ot g x T') hQQ hG (Nj g x T' bs) hx (λb _ hb=>hh b hb) h2 h3 h4 hn hb hgn λc hc h5 h6=>hk c jb h5 h6
 have hs:=H.S.same k (λb _ hb=>hh b hb) h2 λc hc h5 h6=>hk c jb h5 h6
 exact⟨ho,(hs _ H.pl).trans H.l,(hs _ H.px).trans H.rx,hp _ H.pl,hp _ H.px,aZ.keep H.d hs hp,hS,hf,by show ob+1<=n';omega⟩
def Y9.pushRow(H:Y9 σ g x cm ob i LB lb xb dv nn m p bb T bs σ5)(hm:nn 3<=m){hi1 nx n' nb:Nat}{h1 h':Tr Bk}(hh:∀b,b<σ5.aj->h1 b=σ5.h b)(h2:σ5.aj<=hi1)(h3:hi1<=nx)(h4:nx<n'){y:List B}(hb:h' nx=some ⟨dF (nn 3) (sG g x T bs 3)++y,some (1,30)⟩)(hgn:y=[wL (kE g.e) (aT bs m nb) (nn 3)])(hk:∀c,c≠ob->c<hi1->nn 3=0\/c≠bb 3->h' c=h1 c)(ho:h' ob=some ⟨BX cm (aT nn 3 (nn 3+1)) (aT bb 3 nx),none⟩)(hf:Fr σ ⟨h',n'⟩)
  (h6:σ5.aj<=nb) (h7:nb<hi1) (hr:h' nb=some ⟨dF (kE g.e m) λ_=>gK 0,none⟩):
  Y9 σ g x cm ob i LB lb xb dv (aT nn 3 (nn 3+1)) (m+1) p (aT bb 3 nx) T (aT bs m nb) ⟨h',n'⟩:=by
 have hn:=H.n
 have hS:=H.S.pushRow 3 (Ot g x T) (λ_ _ _ _ _ h=>h) (λk j hj=>apM (m:=m) (nb:=nb) k λe=>by subst e;omega) (Nj g x T _) trivial (λb _ hb=>hh b hb) h2 h3 h4 hn hb hgn (λc hc h5 h6=>hk c jb h5 h6) h6 h7 hr
 have hs:=H.S.same 3 (λb _ hb=>hh b hb) h2 λc hc h5 h6=>hk c jb h5 h6
 exact⟨ho,(hs _ H.pl).trans H.l,(hs _ H.px).trans H.rx,H.pl,H.px,aZ.keep H.d hs λ_ h=>h,hS,hf,by show ob+1<=n';omega⟩
end
def dW(g:iD)(j:Nat):Rat:=(ix g.d j).w.q
def dL(g:iD)(j:Nat):List fD:=(ix g.d j).l.map yG
def SX(g:iD)(x:Nat->Rat)(j:Nat)(l:fD):Rat:=aG ((aY g).ds.take j) λd=>Ih d.1 (gq (aY g) x) 0 d.2 l
def Eo(g:iD)(x:Nat->Rat)(j k:Nat)(i c:Nat):Rat:=SX g x j (i,c)+Ih (dW g j) (gq (aY g) x) 0 ((dL g j).take k) (i,c)
theorem Nk{g:iD}{j:Nat}(h:j<g.d.length):ix (aY g).ds j=(dW g j,dL g j):=VU (λd:D5=>(d.w.q,d.l.map yG)) h
theorem wF(g:iD):(aY g).ds.length=g.d.length:=cV _
def PU{g:iD}(x:Nat->Rat){j:Nat}(h:j<g.d.length)(l:fD):SX g x (j+1) l=SX g x j l+Ih (dW g j) (gq (aY g) x) 0 (dL g j) l:=by unfold SX;rw[bD (by rw[wF];exact h),lN,Nk h]
def V9(g:iD)(x:Nat->Rat)(l:fD):SX g x g.d.length l=Ii (aY g) x l:=by unfold SX Ii;rw[<-wF,bX]
def Ik(g:iD)(x:Nat->Rat)(j:Nat):Eo g x j 0=λi c=>SX g x j (i,c):=by funext i c;unfold Eo;rw[cE];exact cF _
def ag6{g:iD}(x:Nat->Rat){j:Nat}(h:j<g.d.length):Eo g x j (ix g.d j).l.length=Eo g x (j+1) 0:=by rw[Ik];funext i c;rw[PU x h];unfold Eo;have:(ix g.d j).l.length=(dL g j).length:=(cV _).symm;rw[this,bX]
theorem Nl{f:fD->Rat}{t:List fD}:∀{k:Nat},k<=t.length->aA k (λi=>f (ix t i))=aG (t.take k) f
 |0,_=>rfl
 |k+1,h=>by rw[bD jb,lN,<-Nl jb];rfl
def ak6{g:iD}(hn:(aY g).eH.Nodup){j:Nat}(hj:j<g.d.length){k:Nat}(hk:k<(dL g j).length):(∀d∈(aY g).ds.take j,ix (dL g j) k∉d.2)/\ix (dL g j) k∉(dL g j).take k:=by
 unfold GL.eH at hn;have h1:(aY g).ds=(aY g).ds.take j++(dW g j,dL g j)::(aY g).ds.drop (j+1):=by rw[<-Nk hj,<-JD (by rw[wF];exact hj),List.take_append_drop]
 rw[h1,cH,gO,gP]at hn;obtain⟨-,h2,h3⟩:=hn;refine⟨λd hd hm=>h3 _ (cA.mpr ⟨d,hd,hm⟩) _ (ib _ (kN hk)) rfl,λhm=>?_⟩;rw[gP]at h2;have h4:=h2.1;have h5:(dL g j)=(dL g j).take k++ix (dL g j) k::(dL g j).drop (k+1):=by rw[<-JD hk,List.take_append_drop]
 have h4:(dL g j).Nodup:=h4;rw[h5,gP]at h4;exact h4.2.2 _ hm _ kc rfl
def ag7{g:iD}(x:Nat->Rat)(hn:(aY g).eH.Nodup){j:Nat}(hj:j<g.d.length){k:Nat}(hk:k<(ix g.d j).l.length){e c:Nat}(Dz:ix (ix g.d j).l k=⟨.ofNat e,.ofNat c⟩):
  qg (rC (Eo g x j k)) e c (gK (ac5 (dW g j) (λk=>gq (aY g) x (yG (ix (ix g.d j).l k))) k))=rC (Eo g x j (k+1)):=by
 have hlen:(dL g j).length=(ix g.d j).l.length:=cV _
 have hix:∀k,k<(ix g.d j).l.length->ix (dL g j) k=yG (ix (ix g.d j).l k):=λk hk=>VU yG hk
 have hl:ix (dL g j) k=(e,c):=by rw[hix k hk,Dz];rfl
 obtain⟨h1,h2⟩:=ak6 hn hj (by rw[hlen];exact hk)
 rw[hl]at h1 h2
 have h3:SX g x j (e,c)=0:=iT λd hd=>SS (h1 d hd)
 have hs:∀m,m<=(ix g.d j).l.length->aA m (λk=>gq (aY g) x (yG (ix (ix g.d j).l k)))=aG ((dL g j).take m) (gq (aY g) x):=λm hm=>by rw[<-Nl jb];exact aK λi hi=>by rw[hix i jb]
 funext i' c'
 unfold qg rC Eo
 rw[bD jb,PS,hl]
 by_cases h:i'=e/\c'=c
 .rw[ae h,h.1,h.2,ae rfl,h3,SS h2]
  unfold ac5
  rw[hs k jb,hs (k+1) jb,bD jb,lN,hl]
  simp only[gl]
 .rw[ab h,ab λe=>h ⟨(Prod.mk.inj e).1.symm,(Prod.mk.inj e).2.symm⟩]
  simp only[cF]
def ag8(n i:Nat):qJ n (i+1)=aT (qJ n i) 4 (qJ n i 4+1):=by
 funext k;unfold aT;by_cases h:k=4
 .subst h;rfl
 .rw[ab h];unfold qJ;split<;>first|rfl|omega
section
variable {g:iD} {x:Nat→Rat} {p:Nat→Prop} {h:Tr Bk} {nn bb:Nat→Nat} {T:Nat→Nat→B} {m:Nat} {R:Nat→Nat→Rat} {bs:Nat→Nat} {lo hi:Nat}
def zO.rows(hS:zO g x p h nn bb T m R bs lo hi){k:Nat}{f:Nat->Nat->Rat}(hE:sE k=1)(hG:∀j,sG g x T bs k j=[T k j])(hQ:∀j,sQ g x T k p h j->Oo (T k) (kE g.e) f p h j){q:Nat->Prop}(hq:∀b,lo<=b->b<hi->q b):dN q h (aQ (nn k) (bb k)) (nn k) (kE g.e) f:=by have hel:=λi (hi:i<nn k)=>hQ i (hS.f.q k i hi);have h1:=hS.f.hlp k (q:=q) jb (λj hj=>by rw[hG j];simp only[dp,fv,aZ.kn (hel j hj),eY]) hq;rw[hE]at h1;exact⟨T k,h1.congr λi _=>hG i,λi hi=>aZ.keep (hel i hi) (λ_ _=>rfl) λb hb=>hq b (hS.f.pp b hb).1 (hS.f.pp b hb).2⟩
def zO.row(hS:zO g x p h nn bb T m R bs lo hi){n i:Nat}(hn:nn 3=n)(hi:i<n):ld h (bb 3) (i*1) 1 false=some (.c (.sl (bs i) 0 (kE g.e i) (.ex (kE g.e i)))):=by obtain⟨b7,o7,c7,e7,-,dh⟩:=aZ.pos (hS.f.hlp 3 (q:=λ_=>True) jj (λ_ _=>rfl) λ_ _ _=>trivial) (show 0<nn 3 by omega);rw[qw jb]at e7;cases e7;have:=(zG (dh i jb)).1;rw[cK]at this;exact this
end
end Go.Proofs.Xe
