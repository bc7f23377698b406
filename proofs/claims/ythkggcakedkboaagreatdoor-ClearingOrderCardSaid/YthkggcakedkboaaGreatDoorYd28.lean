import Derived.Test.YthkggcakedkboaaGreatDoorYd27
set_option linter.all false
namespace Go.Proofs.Xe
open Go.RowKit Go.Proofs.Ins
structure au0(D:Nat)(g:gW)(x:Nat->Rat):Prop where
 hD:BI D
 n:g.e.length<=1000
 d:g.d.length<=1000
 e:∀i,i<g.e.length->EOk D (kE g.e i) (dH (ix g.e i))/\MOk D (dH (ix g.e i)) (x i)/\Sz (ru (ix g.e i) (kE g.e i))/\Sz (x i-ru (ix g.e i) (kE g.e i))
 k:∀i,i<g.e.length->kE g.e i<=1000
 w:∀d,d<g.d.length->(ix g.d d).w.fits 1000000/\0<=(ix g.d d).w.q/\Zk D 1 (ix g.d d).w.q
 l:∀d,d<g.d.length->(ix g.d d).l.length<=1000/\∀k,k<(ix g.d d).l.length->∃e c:Nat,ix (ix g.d d).l k=⟨.ofNat e,.ofNat c⟩/\e<g.e.length/\c<kE g.e e
 q:∀i,i<g.e.length->∀c,c<kE g.e i->0<=gq (aX g) x (i,c)/\Zk D 1 (gq (aX g) x (i,c))
 r:∀i,i<g.e.length->∀c,c<kE g.e i->Sz (Jq (aX g) x (i,c))
 nd:(aX g).eX.Nodup
def grF(g:gW)(x:Nat->Rat)(i c:Nat):Rat:=zC (dH (ix g.e i)) (x i) c
def PW(g:gW)(x:Nat->Rat)(i c:Nat):Rat:=rQ (dH (ix g.e i)) (x i) c
def suF(g:gW)(x:Nat->Rat)(i:Nat):Rat:=He (x i-ru (ix g.e i) (kE g.e i)) 0
def rsF(g:gW)(x:Nat->Rat)(i:Nat):Rat:=ZV (dH (ix g.e i)) (x i)
def fuF(g:gW)(x:Nat->Rat)(i:Nat):Bool:=decide (0<=pV (x i) (ru (ix g.e i) (kE g.e i)))
def sG(g:gW)(x:Nat->Rat)(T:Nat->Nat->B)(bs:Nat->Nat):Nat->Nat->List B
 |1=>λi=>[T 1 i]
 |2=>λi=>[T 2 i]
 |3=>λi=>[xW (kE g.e) bs i]
 |4=>λi=>[T 4 i]
 |5=>λi=>gX (suF g x i)
 |6=>λi=>gX (rsF g x i)
 |7=>λi=>[.bool (fuF g x i)]
 |_=>λ_=>[]
def sE:Nat->Nat
 |1=>1
 |2=>1
 |3=>1
 |4=>1
 |5=>3
 |6=>3
 |7=>1
 |_=>0
def sT:Nat->Nat
 |1=>30
 |2=>30
 |3=>30
 |4=>30
 |5=>42
 |6=>42
 |7=>4
 |_=>0
def sQ(g:gW)(x:Nat->Rat)(T:Nat->Nat->B):Nat->(Nat->Prop)->Tr Bk->Nat->Prop
 |1=>PV (T 1) (kE g.e) (grF g x)
 |2=>PV (T 2) (kE g.e) (PW g x)
 |4=>PV (T 4) (kE g.e) λi c=>aao (aX g) x (i,c)
 |_=>NoQ
def OE(g:gW)(x:Nat->Rat)(T:Nat->Nat->B)(bs:Nat->Nat)(k:Nat):LG (sG g x T bs k) (sE k):=by intro j;unfold sG sE;split<;>rfl
def PX(g:gW)(x:Nat->Rat)(T:Nat->Nat->B)(k j:Nat):QK (sQ g x T k) j:=by
 unfold sQ;split
 .exact Dz _ _ _ j
 .exact Dz _ _ _ j
 .exact Dz _ _ _ j
 .exact JV j
def rF(T:Nat->Nat->B)(k i:Nat)(v:B):Nat->Nat->B:=λk' j=>if k'=k/\j=i then v else T k' j
def Lm{T:Nat->Nat->B}{k i k' j:Nat}(h:k'≠k\/j≠i)(v:B):rF T k i v k' j=T k' j:=ae jb
def mM(T:Nat->Nat->B)(k i:Nat)(v:B):rF T k i v k i=v:=ab ⟨rfl,rfl⟩
def aat{g:gW}{x:Nat->Rat}{T:Nat->Nat->B}{bs:Nat->Nat}{k i:Nat}{v:B}{k' j:Nat}(h:k'=k->j<i):sG g x (rF T k i v) bs k' j=sG g x T bs k' j:=by
 have hu:∀a,k'=a->rF T k i v a j=T a j:=λa e=>Lm (by by_cases e2:a=k;exact .inr (by have:=h (e.trans e2);omega);exact .inl e2) v;unfold sG;split
 .show [rF T k i v 1 j]=_;rw[hu 1 rfl]
 .show [rF T k i v 2 j]=_;rw[hu 2 rfl]
 .rfl
 .show [rF T k i v 4 j]=_;rw[hu 4 rfl]
 .rfl
 .rfl
 .rfl
 .rfl
def aau{g:gW}{x:Nat->Rat}{T:Nat->Nat->B}{k i:Nat}{v:B}{k' j:Nat}(h:k'=k->j<i){p:Nat->Prop}{H:Tr Bk}(hq:sQ g x T k' p H j):sQ g x (rF T k i v) k' p H j:=by
 have hu:∀a,k'=a->rF T k i v a j=T a j:=λa e=>Lm (by by_cases e2:a=k;exact .inr (by have:=h (e.trans e2);omega);exact .inl e2) v;unfold sQ at hq⊢;split
 .show bf _ _ _ (rF T k i v 1 j) _ _;rw[hu 1 rfl];exact hq
 .show bf _ _ _ (rF T k i v 2 j) _ _;rw[hu 2 rfl];exact hq
 .show bf _ _ _ (rF T k i v 4 j) _ _;rw[hu 4 rfl];exact hq
 .trivial
def arA{g:gW}{x:Nat->Rat}{T:Nat->Nat->B}{bs:Nat->Nat}{m nb j:Nat}(k:Nat)(h:k=3->j<m):sG g x T (aO bs m nb) k j=sG g x T bs k j:=by
 unfold sG;split
 .rfl
 .rfl
 .show [xW _ _ j]=_;have:=h rfl;rw[XD jb]
 all_goals rfl
def DC(cm:B)(nn bb:Nat->Nat):List B:=[cm,aU (nn 1) (bb 1),aU (nn 2) (bb 2),aU (nn 3) (bb 3),aU (nn 4) (bb 4),aU (nn 5) (bb 5),aU (nn 6) (bb 6),aU (nn 7) (bb 7)]
def rC(R:Nat->Nat->Rat)(i c:Nat):List B:=gX (R i c)
abbrev AU(g:gW)(x:Nat->Rat)(p:Nat->Prop)(h:Tr Bk)(nn bb:Nat->Nat)(T:Nat->Nat->B)(m:Nat)(R:Nat->Nat->Rat)(bs:Nat->Nat)(lo hi:Nat):Prop:=uF p h nn bb (sG g x T bs) sE sT (sQ g x T) m (kE g.e) (rC R) bs lo hi
def rY(i m:Nat):Nat->Nat
 |1=>i
 |2=>i
 |3=>i
 |4=>m
 |5=>i
 |6=>i
 |7=>i
 |_=>0
def aav(tm:Tr V)(rb sb mb n ob i lb xb:Nat)(lv dv:B):Prop:=Tr.ah tm 0=.c (.ptr sb 0)/\Tr.ah tm 1=.c (.sl mb 0 n (.ex n))/\Tr.ah tm 4=.c (.ptr rb 0)/\Tr.ah tm 5=.c (.ptr ob 0)/\Tr.ah tm 6=.c (.int .i64 (.ofNat i))/\Tr.ah tm 7=.c (.ptr lb 0)/\Tr.ah tm 8=.c dv/\Tr.ah tm 9=.c (.ptr xb 0)/\Tr.ah tm 25=.c lv/\Tr.ah tm 26=.c (.int .i64 (.ofNat n))/\Tr.ah tm 27=.c (.int .i64 (.ofNat i))
structure aaw(σ:St)(g:gW)(x:Nat->Rat)(cm:B)(ob i:Nat)(LB:List B)(lb xb:Nat)(dv:B)(nn:Nat->Nat)(m:Nat)(p:Nat->Prop)(bb:Nat->Nat)(T:Nat->Nat->B)(bs:Nat->Nat)(σ5:St):Prop where
 o:σ5.h ob=some ⟨DC cm nn bb,none⟩
 l:σ5.h lb=some ⟨LB,none⟩
 rx:σ5.h xb=some ⟨gX (rsF g x i),none⟩
 pl:p lb
 px:p xb
 d:jL p σ5.h dv (kE g.e i) (PW g x i)
 S:AU g x p σ5.h nn bb T m (λ_ _=>0) bs (ob+1) σ5.aj
 f:Fr σ σ5
 n:ob+1<=σ5.aj
section
variable {σ σ5:St} {g:gW} {x:Nat→Rat} {cm:B} {ob i:Nat} {LB:List B} {lb xb:Nat} {dv:B} {nn:Nat→Nat} {m:Nat} {p p' : Nat→Prop} {bb:Nat→Nat} {T T' : Nat→Nat→B} {bs:Nat→Nat}
def aaw.push(H:aaw σ g x cm ob i LB lb xb dv nn m p bb T bs σ5)(k:Nat){hi1 nx n':Nat}{h1 h':Tr Bk}(hp:∀b,p b->p' b)(hp2:∀b,p' b->p b\/σ5.aj<=b/\b<hi1)(hQQ:∀k' j,j<nn k'->∀p h,sQ g x T k' p h j->sQ g x T' k' p h j)(hG:∀k' j,j<nn k'->sG g x T' bs k' j=sG g x T bs k' j)(hx:sQ g x T' k p' h1 (nn k))(hh:∀b,b<σ5.aj->h1 b=σ5.h b)
  (h2:σ5.aj<=hi1) (h3:hi1<=nx) (h4:nx<n'){y:List B}(hb:h' nx=some ⟨bD (nn k) (sG g x T bs k)++y,some (sE k,sT k)⟩) (hgn:y=sG g x T' bs k (nn k)) (hk:∀c,c≠ob->c<hi1->nn k=0\/c≠bb k->h' c=h1 c) (ho:h' ob=some ⟨DC cm (aO nn k (nn k+1)) (aO bb k nx),none⟩) (hf:Fr σ ⟨h',n'⟩):
  aaw σ g x cm ob i LB lb xb dv (aO nn k (nn k+1)) m p' (aO bb k nx) T' bs ⟨h',n'⟩:=by
 have hn:=H.n
 have hS:=H.S.push k hp hp2 (PX g x T') hQQ hG (OE g x T' bs) hx (λb _ hb=>hh b hb) h2 h3 h4 hn hb hgn λc hc h5 h6=>hk c jb h5 h6
 have hs:=H.S.same k (λb _ hb=>hh b hb) h2 λc hc h5 h6=>hk c jb h5 h6
 exact⟨ho,(hs _ H.pl).trans H.l,(hs _ H.px).trans H.rx,hp _ H.pl,hp _ H.px,bf.keep H.d hs hp,hS,hf,by show ob+1<=n';omega⟩
def aaw.pushRow(H:aaw σ g x cm ob i LB lb xb dv nn m p bb T bs σ5)(hm:nn 3<=m){hi1 nx n' nb:Nat}{h1 h':Tr Bk}(hh:∀b,b<σ5.aj->h1 b=σ5.h b)(h2:σ5.aj<=hi1)(h3:hi1<=nx)(h4:nx<n'){y:List B}(hb:h' nx=some ⟨bD (nn 3) (sG g x T bs 3)++y,some (1,30)⟩)(hgn:y=[xW (kE g.e) (aO bs m nb) (nn 3)])(hk:∀c,c≠ob->c<hi1->nn 3=0\/c≠bb 3->h' c=h1 c)(ho:h' ob=some ⟨DC cm (aO nn 3 (nn 3+1)) (aO bb 3 nx),none⟩)(hf:Fr σ ⟨h',n'⟩)
  (h6:σ5.aj<=nb) (h7:nb<hi1) (hr:h' nb=some ⟨bD (kE g.e m) λ_=>gX 0,none⟩):
  aaw σ g x cm ob i LB lb xb dv (aO nn 3 (nn 3+1)) (m+1) p (aO bb 3 nx) T (aO bs m nb) ⟨h',n'⟩:=by
 have hn:=H.n
 have hS:=H.S.pushRow 3 (PX g x T) (λ_ _ _ _ _ h=>h) (λk j hj=>arA (m:=m) (nb:=nb) k λe=>by subst e;omega) (OE g x T _) trivial (λb _ hb=>hh b hb) h2 h3 h4 hn hb hgn (λc hc h5 h6=>hk c jb h5 h6) h6 h7 hr
 have hs:=H.S.same 3 (λb _ hb=>hh b hb) h2 λc hc h5 h6=>hk c jb h5 h6
 exact⟨ho,(hs _ H.pl).trans H.l,(hs _ H.px).trans H.rx,H.pl,H.px,bf.keep H.d hs λ_ h=>h,hS,hf,by show ob+1<=n';omega⟩
end
def dW(g:gW)(j:Nat):Rat:=(ix g.d j).w.q
def dL(g:gW)(j:Nat):List fA:=(ix g.d j).l.map yY
def UO(g:gW)(x:Nat->Rat)(j:Nat)(l:fA):Rat:=aJ ((aX g).ds.take j) λd=>Jp d.1 (gq (aX g) x) 0 d.2 l
def FW(g:gW)(x:Nat->Rat)(j k:Nat)(i c:Nat):Rat:=UO g x j (i,c)+Jp (dW g j) (gq (aX g) x) 0 ((dL g j).take k) (i,c)
theorem OG{g:gW}{j:Nat}(h:j<g.d.length):ix (aX g).ds j=(dW g j,dL g j):=rZ (λd:uH=>(d.w.q,d.l.map yY)) h
theorem xO(g:gW):(aX g).ds.length=g.d.length:=bz _
def Q9{g:gW}(x:Nat->Rat){j:Nat}(h:j<g.d.length)(l:fA):UO g x (j+1) l=UO g x j l+Jp (dW g j) (gq (aX g) x) 0 (dL g j) l:=by unfold UO;rw[bJ (by rw[xO];exact h),mJ,OG h]
def XK(g:gW)(x:Nat->Rat)(l:fA):UO g x g.d.length l=Jq (aX g) x l:=by unfold UO Jq;rw[<-xO,ck]
def Jt(g:gW)(x:Nat->Rat)(j:Nat):FW g x j 0=λi c=>UO g x j (i,c):=by funext i c;unfold FW;rw[cF];exact eh _
def aiv{g:gW}(x:Nat->Rat){j:Nat}(h:j<g.d.length):FW g x j (ix g.d j).l.length=FW g x (j+1) 0:=by rw[Jt];funext i c;rw[Q9 x h];unfold FW;have:(ix g.d j).l.length=(dL g j).length:=(bz _).symm;rw[this,ck]
theorem OH{f:fA->Rat}{t:List fA}:∀{k:Nat},k<=t.length->aB k (λi=>f (ix t i))=aJ (t.take k) f
 |0,_=>rfl
 |k+1,h=>by rw[bJ jb,mJ,<-OH jb];rfl
def amH{g:gW}(hn:(aX g).eX.Nodup){j:Nat}(hj:j<g.d.length){k:Nat}(hk:k<(dL g j).length):(∀d∈(aX g).ds.take j,ix (dL g j) k∉d.2)/\ix (dL g j) k∉(dL g j).take k:=by
 unfold GL.eX at hn;have h1:(aX g).ds=(aX g).ds.take j++(dW g j,dL g j)::(aX g).ds.drop (j+1):=by rw[<-OG hj,<-KQ (by rw[xO];exact hj),List.take_append_drop]
 rw[h1,cM,ia,gm]at hn;obtain⟨-,h2,h3⟩:=hn;refine⟨λd hd hm=>h3 _ (bX.mpr ⟨d,hd,hm⟩) _ (ik _ (lM hk)) rfl,λhm=>?_⟩;rw[gm]at h2;have h4:=h2.1;have h5:(dL g j)=(dL g j).take k++ix (dL g j) k::(dL g j).drop (k+1):=by rw[<-KQ hk,List.take_append_drop]
 have h4:(dL g j).Nodup:=h4;rw[h5,gm]at h4;exact h4.2.2 _ hm _ kc rfl
def aiw{g:gW}(x:Nat->Rat)(hn:(aX g).eX.Nodup){j:Nat}(hj:j<g.d.length){k:Nat}(hk:k<(ix g.d j).l.length){e c:Nat}(EF:ix (ix g.d j).l k=⟨.ofNat e,.ofNat c⟩):
  qV (rC (FW g x j k)) e c (gX (aez (dW g j) (λk=>gq (aX g) x (yY (ix (ix g.d j).l k))) k))=rC (FW g x j (k+1)):=by
 have hlen:(dL g j).length=(ix g.d j).l.length:=bz _
 have hix:∀k,k<(ix g.d j).l.length->ix (dL g j) k=yY (ix (ix g.d j).l k):=λk hk=>rZ yY hk
 have hl:ix (dL g j) k=(e,c):=by rw[hix k hk,EF];rfl
 obtain⟨h1,h2⟩:=amH hn hj (by rw[hlen];exact hk)
 rw[hl]at h1 h2
 have h3:UO g x j (e,c)=0:=je λd hd=>UM (h1 d hd)
 have hs:∀m,m<=(ix g.d j).l.length->aB m (λk=>gq (aX g) x (yY (ix (ix g.d j).l k)))=aJ ((dL g j).take m) (gq (aX g) x):=λm hm=>by rw[<-OH jb];exact aK λi hi=>by rw[hix i jb]
 funext i' c'
 unfold qV rC FW
 rw[bJ jb,Q7,hl]
 by_cases h:i'=e/\c'=c
 .rw[ab h,h.1,h.2,ab rfl,h3,UM h2]
  unfold aez
  rw[hs k jb,hs (k+1) jb,bJ jb,mJ,hl]
  simp only[gA]
 .rw[ae h,ae λe=>h ⟨(Prod.mk.inj e).1.symm,(Prod.mk.inj e).2.symm⟩]
  simp only[eh]
def aix(n i:Nat):rY n (i+1)=aO (rY n i) 4 (rY n i 4+1):=by
 funext k;unfold aO;by_cases h:k=4
 .subst h;rfl
 .rw[ae h];unfold rY;split<;>first|rfl|omega
section
variable {g:gW} {x:Nat→Rat} {p:Nat→Prop} {h:Tr Bk} {nn bb:Nat→Nat} {T:Nat→Nat→B} {m:Nat} {R:Nat→Nat→Rat} {bs:Nat→Nat} {lo hi:Nat}
def AU.rows(hS:AU g x p h nn bb T m R bs lo hi){k:Nat}{f:Nat->Nat->Rat}(hE:sE k=1)(hG:∀j,sG g x T bs k j=[T k j])(hQ:∀j,sQ g x T k p h j->PV (T k) (kE g.e) f p h j){q:Nat->Prop}(hq:∀b,lo<=b->b<hi->q b):dQ q h (aU (nn k) (bb k)) (nn k) (kE g.e) f:=by have hel:=λi (hi:i<nn k)=>hQ i (hS.f.q k i hi);have h1:=hS.f.hlp k (q:=q) jb (λj hj=>by rw[hG j];simp only[cG,dC,bf.kn (hel j hj),cW]) hq;rw[hE]at h1;exact⟨T k,h1.congr λi _=>hG i,λi hi=>bf.keep (hel i hi) (λ_ _=>rfl) λb hb=>hq b (hS.f.pp b hb).1 (hS.f.pp b hb).2⟩
def AU.row(hS:AU g x p h nn bb T m R bs lo hi){n i:Nat}(hn:nn 3=n)(hi:i<n):ld h (bb 3) (i*1) 1 false=some (.c (.sl (bs i) 0 (kE g.e i) (.ex (kE g.e i)))):=by obtain⟨b7,o7,c7,e7,-,cZ⟩:=bf.pos (hS.f.hlp 3 (q:=λ_=>True) jj (λ_ _=>rfl) λ_ _ _=>trivial) (show 0<nn 3 by omega);rw[rE jb]at e7;cases e7;have:=(vg (cZ i jb)).1;rw[cN]at this;exact this
end
end Go.Proofs.Xe
