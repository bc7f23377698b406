import Derived.Test.YtchhojplceoifaaGreatDoorYb27
set_option linter.all false
namespace Go.Proofs.Xe
open Go.RowKit Go.Proofs.Ins
structure avF(D:Nat)(g:gB)(x:Nat->Rat):Prop where
 hD:BQ D
 n:g.e.length<=1000
 d:g.d.length<=1000
 e:∀i,i<g.e.length->EOk D (kE g.e i) (dU (ix g.e i))/\MOk D (dU (ix g.e i)) (x i)/\Sz (rQ (ix g.e i) (kE g.e i))/\Sz (x i-rQ (ix g.e i) (kE g.e i))
 k:∀i,i<g.e.length->kE g.e i<=1000
 w:∀d,d<g.d.length->(ix g.d d).w.fits 1000000/\0<=(ix g.d d).w.q/\Zk D 1 (ix g.d d).w.q
 l:∀d,d<g.d.length->(ix g.d d).l.length<=1000/\∀k,k<(ix g.d d).l.length->∃e c:Nat,ix (ix g.d d).l k=⟨.ofNat e,.ofNat c⟩/\e<g.e.length/\c<kE g.e e
 q:∀i,i<g.e.length->∀c,c<kE g.e i->0<=gq (aZ g) x (i,c)/\Zk D 1 (gq (aZ g) x (i,c))
 r:∀i,i<g.e.length->∀c,c<kE g.e i->Sz (yc (aZ g) x (i,c))
 nd:(aZ g).eY.Nodup
def grF(g:gB)(x:Nat->Rat)(i c:Nat):Rat:=Ap (dU (ix g.e i)) (x i) c
def P8(g:gB)(x:Nat->Rat)(i c:Nat):Rat:=tX (dU (ix g.e i)) (x i) c
def suF(g:gB)(x:Nat->Rat)(i:Nat):Rat:=He (x i-rQ (ix g.e i) (kE g.e i)) 0
def rsF(g:gB)(x:Nat->Rat)(i:Nat):Rat:=rsv (dU (ix g.e i)) (x i)
def fuF(g:gB)(x:Nat->Rat)(i:Nat):Bool:=decide (0<=oO (x i) (rQ (ix g.e i) (kE g.e i)))
def sG(g:gB)(x:Nat->Rat)(T:Nat->Nat->B)(bs:Nat->Nat):Nat->Nat->List B
 |1=>λi=>[T 1 i]
 |2=>λi=>[T 2 i]
 |3=>λi=>[yx (kE g.e) bs i]
 |4=>λi=>[T 4 i]
 |5=>λi=>ig (suF g x i)
 |6=>λi=>ig (rsF g x i)
 |7=>λi=>[.bool (fuF g x i)]
 |_=>λ_=>[]
def sE:Nat->Nat
 |1=>1
 |2=>1
 |3=>1
 |4=>1
 |5=>3
 |6=>3
 |7=>1
 |_=>0
def sT:Nat->Nat
 |1=>30
 |2=>30
 |3=>30
 |4=>30
 |5=>50
 |6=>50
 |7=>4
 |_=>0
def sQ(g:gB)(x:Nat->Rat)(T:Nat->Nat->B):Nat->(Nat->Prop)->Tr Bk->Nat->Prop
 |1=>P6 (T 1) (kE g.e) (grF g x)
 |2=>P6 (T 2) (kE g.e) (P8 g x)
 |4=>P6 (T 4) (kE g.e) λi c=>Js (aZ g) x (i,c)
 |_=>NoQ
def OI(g:gB)(x:Nat->Rat)(T:Nat->Nat->B)(bs:Nat->Nat)(k:Nat):LG (sG g x T bs k) (sE k):=by intro j;unfold sG sE;split<;>rfl
def P9(g:gB)(x:Nat->Rat)(T:Nat->Nat->B)(k j:Nat):QK (sQ g x T k) j:=by
 unfold sQ;split
 .exact DF _ _ _ j
 .exact DF _ _ _ j
 .exact DF _ _ _ j
 .exact BH j
def rW(T:Nat->Nat->B)(k i:Nat)(v:B):Nat->Nat->B:=λk' j=>if k'=k/\j=i then v else T k' j
def LK{T:Nat->Nat->B}{k i k' j:Nat}(h:k'≠k\/j≠i)(v:B):rW T k i v k' j=T k' j:=ae jb
def mP(T:Nat->Nat->B)(k i:Nat)(v:B):rW T k i v k i=v:=ab ⟨rfl,rfl⟩
def aaH{g:gB}{x:Nat->Rat}{T:Nat->Nat->B}{bs:Nat->Nat}{k i:Nat}{v:B}{k' j:Nat}(h:k'=k->j<i):sG g x (rW T k i v) bs k' j=sG g x T bs k' j:=by
 have hu:∀a,k'=a->rW T k i v a j=T a j:=λa e=>LK (by by_cases e2:a=k;exact .inr (by have:=h (e.trans e2);omega);exact .inl e2) v;unfold sG;split
 .show [rW T k i v 1 j]=_;rw[hu 1 rfl]
 .show [rW T k i v 2 j]=_;rw[hu 2 rfl]
 .rfl
 .show [rW T k i v 4 j]=_;rw[hu 4 rfl]
 .rfl
 .rfl
 .rfl
 .rfl
def aaI{g:gB}{x:Nat->Rat}{T:Nat->Nat->B}{k i:Nat}{v:B}{k' j:Nat}(h:k'=k->j<i){p:Nat->Prop}{H:Tr Bk}(hq:sQ g x T k' p H j):sQ g x (rW T k i v) k' p H j:=by
 have hu:∀a,k'=a->rW T k i v a j=T a j:=λa e=>LK (by by_cases e2:a=k;exact .inr (by have:=h (e.trans e2);omega);exact .inl e2) v;unfold sQ at hq⊢;split
 .show aY _ _ _ (rW T k i v 1 j) _ _;rw[hu 1 rfl];exact hq
 .show aY _ _ _ (rW T k i v 2 j) _ _;rw[hu 2 rfl];exact hq
 .show aY _ _ _ (rW T k i v 4 j) _ _;rw[hu 4 rfl];exact hq
 .trivial
def ash{g:gB}{x:Nat->Rat}{T:Nat->Nat->B}{bs:Nat->Nat}{m nb j:Nat}(k:Nat)(h:k=3->j<m):sG g x T (aN bs m nb) k j=sG g x T bs k j:=by
 unfold sG;split
 .rfl
 .rfl
 .show [yx _ _ j]=_;have:=h rfl;rw[XV jb]
 all_goals rfl
def DJ(cm:B)(nn bb:Nat->Nat):List B:=[cm,aS (nn 1) (bb 1),aS (nn 2) (bb 2),aS (nn 3) (bb 3),aS (nn 4) (bb 4),aS (nn 5) (bb 5),aS (nn 6) (bb 6),aS (nn 7) (bb 7)]
def rC(R:Nat->Nat->Rat)(i c:Nat):List B:=ig (R i c)
abbrev Bh(g:gB)(x:Nat->Rat)(p:Nat->Prop)(h:Tr Bk)(nn bb:Nat->Nat)(T:Nat->Nat->B)(m:Nat)(R:Nat->Nat->Rat)(bs:Nat->Nat)(lo hi:Nat):Prop:=uP p h nn bb (sG g x T bs) sE sT (sQ g x T) m (kE g.e) (rC R) bs lo hi
def sH(i m:Nat):Nat->Nat
 |1=>i
 |2=>i
 |3=>i
 |4=>m
 |5=>i
 |6=>i
 |7=>i
 |_=>0
def aaJ(tm:Tr V)(rb sb mb n ob i lb xb:Nat)(lv dv:B):Prop:=Tr.ah tm 0=.c (.ptr sb 0)/\Tr.ah tm 1=.c (.sl mb 0 n (.ex n))/\Tr.ah tm 4=.c (.ptr rb 0)/\Tr.ah tm 5=.c (.ptr ob 0)/\Tr.ah tm 6=.c (.int .i64 (.ofNat i))/\Tr.ah tm 7=.c (.ptr lb 0)/\Tr.ah tm 8=.c dv/\Tr.ah tm 9=.c (.ptr xb 0)/\Tr.ah tm 25=.c lv/\Tr.ah tm 26=.c (.int .i64 (.ofNat n))/\Tr.ah tm 27=.c (.int .i64 (.ofNat i))
structure aaK(σ:St)(g:gB)(x:Nat->Rat)(cm:B)(ob i:Nat)(LB:List B)(lb xb:Nat)(dv:B)(nn:Nat->Nat)(m:Nat)(p:Nat->Prop)(bb:Nat->Nat)(T:Nat->Nat->B)(bs:Nat->Nat)(σ5:St):Prop where
 o:σ5.h ob=some ⟨DJ cm nn bb,none⟩
 l:σ5.h lb=some ⟨LB,none⟩
 rx:σ5.h xb=some ⟨ig (rsF g x i),none⟩
 pl:p lb
 px:p xb
 d:je p σ5.h dv (kE g.e i) (P8 g x i)
 S:Bh g x p σ5.h nn bb T m (λ_ _=>0) bs (ob+1) σ5.aj
 f:Fr σ σ5
 n:ob+1<=σ5.aj
section
variable {σ σ5:St} {g:gB} {x:Nat→Rat} {cm:B} {ob i:Nat} {LB:List B} {lb xb:Nat} {dv:B} {nn:Nat→Nat} {m:Nat} {p p' : Nat→Prop} {bb:Nat→Nat} {T T' : Nat→Nat→B} {bs:Nat→Nat}
def aaK.push(H:aaK σ g x cm ob i LB lb xb dv nn m p bb T bs σ5)(k:Nat){hi1 nx n':Nat}{h1 h':Tr Bk}(hp:∀b,p b->p' b)(hp2:∀b,p' b->p b\/σ5.aj<=b/\b<hi1)(hQQ:∀k' j,j<nn k'->∀p h,sQ g x T k' p h j->sQ g x T' k' p h j)(hG:∀k' j,j<nn k'->sG g x T' bs k' j=sG g x T bs k' j)(hx:sQ g x T' k p' h1 (nn k))(hh:∀b,b<σ5.aj->h1 b=σ5.h b)
  (h2:σ5.aj<=hi1) (h3:hi1<=nx) (h4:nx<n'){y:List B}(hb:h' nx=some ⟨bU (nn k) (sG g x T bs k)++y,some (sE k,sT k)⟩) (hgn:y=sG g x T' bs k (nn k)) (hk:∀c,c≠ob->c<hi1->nn k=0\/c≠bb k->h' c=h1 c) (ho:h' ob=some ⟨DJ cm (aN nn k (nn k+1)) (aN bb k nx),none⟩) (hf:Fr σ ⟨h',n'⟩):
  aaK σ g x cm ob i LB lb xb dv (aN nn k (nn k+1)) m p' (aN bb k nx) T' bs ⟨h',n'⟩:=by
 have hn:=H.n
 have hS:=H.S.push k hp hp2 (P9 g x T') hQQ hG (OI g x T' bs) hx (λb _ hb=>hh b hb) h2 h3 h4 hn hb hgn λc hc h5 h6=>hk c jb h5 h6
 have hs:=H.S.same k (λb _ hb=>hh b hb) h2 λc hc h5 h6=>hk c jb h5 h6
 exact⟨ho,(hs _ H.pl).trans H.l,(hs _ H.px).trans H.rx,hp _ H.pl,hp _ H.px,aY.keep H.d hs hp,hS,hf,by show ob+1<=n';omega⟩
def aaK.pushRow(H:aaK σ g x cm ob i LB lb xb dv nn m p bb T bs σ5)(hm:nn 3<=m){hi1 nx n' nb:Nat}{h1 h':Tr Bk}(hh:∀b,b<σ5.aj->h1 b=σ5.h b)(h2:σ5.aj<=hi1)(h3:hi1<=nx)(h4:nx<n'){y:List B}(hb:h' nx=some ⟨bU (nn 3) (sG g x T bs 3)++y,some (1,30)⟩)(hgn:y=[yx (kE g.e) (aN bs m nb) (nn 3)])(hk:∀c,c≠ob->c<hi1->nn 3=0\/c≠bb 3->h' c=h1 c)(ho:h' ob=some ⟨DJ cm (aN nn 3 (nn 3+1)) (aN bb 3 nx),none⟩)(hf:Fr σ ⟨h',n'⟩)
  (h6:σ5.aj<=nb) (h7:nb<hi1) (hr:h' nb=some ⟨bU (kE g.e m) λ_=>ig 0,none⟩):
  aaK σ g x cm ob i LB lb xb dv (aN nn 3 (nn 3+1)) (m+1) p (aN bb 3 nx) T (aN bs m nb) ⟨h',n'⟩:=by
 have hn:=H.n
 have hS:=H.S.pushRow 3 (P9 g x T) (λ_ _ _ _ _ h=>h) (λk j hj=>ash (m:=m) (nb:=nb) k λe=>by subst e;omega) (OI g x T _) trivial (λb _ hb=>hh b hb) h2 h3 h4 hn hb hgn (λc hc h5 h6=>hk c jb h5 h6) h6 h7 hr
 have hs:=H.S.same 3 (λb _ hb=>hh b hb) h2 λc hc h5 h6=>hk c jb h5 h6
 exact⟨ho,(hs _ H.pl).trans H.l,(hs _ H.px).trans H.rx,H.pl,H.px,aY.keep H.d hs λ_ h=>h,hS,hf,by show ob+1<=n';omega⟩
end
def dW(g:gB)(j:Nat):Rat:=(ix g.d j).w.q
def dL(g:gB)(j:Nat):List fK:=(ix g.d j).l.map zH
def U8(g:gB)(x:Nat->Rat)(j:Nat)(l:fK):Rat:=aK ((aZ g).ds.take j) λd=>vO d.1 (gq (aZ g) x) 0 d.2 l
def FV(g:gB)(x:Nat->Rat)(j k:Nat)(i c:Nat):Rat:=U8 g x j (i,c)+vO (dW g j) (gq (aZ g) x) 0 ((dL g j).take k) (i,c)
theorem OJ{g:gB}{j:Nat}(h:j<g.d.length):ix (aZ g).ds j=(dW g j,dL g j):=XL (λd:yw=>(d.w.q,d.l.map zH)) h
theorem yg(g:gB):(aZ g).ds.length=g.d.length:=dc _
def Ru{g:gB}(x:Nat->Rat){j:Nat}(h:j<g.d.length)(l:fK):U8 g x (j+1) l=U8 g x j l+vO (dW g j) (gq (aZ g) x) 0 (dL g j) l:=by unfold U8;rw[bP (by rw[yg];exact h),mM,OJ h]
def X3(g:gB)(x:Nat->Rat)(l:fK):U8 g x g.d.length l=yc (aZ g) x l:=by unfold U8 yc;rw[<-yg,cB]
def Jw(g:gB)(x:Nat->Rat)(j:Nat):FV g x j 0=λi c=>U8 g x j (i,c):=by funext i c;unfold FV;rw[cL];exact cY _
def aiN{g:gB}(x:Nat->Rat){j:Nat}(h:j<g.d.length):FV g x j (ix g.d j).l.length=FV g x (j+1) 0:=by rw[Jw];funext i c;rw[Ru x h];unfold FV;have:(ix g.d j).l.length=(dL g j).length:=(dc _).symm;rw[this,cB]
theorem OL{f:fK->Rat}{t:List fK}:∀{k:Nat},k<=t.length->aB k (λi=>f (ix t i))=aK (t.take k) f
 |0,_=>rfl
 |k+1,h=>by rw[bP jb,mM,<-OL jb];rfl
def am3{g:gB}(hn:(aZ g).eY.Nodup){j:Nat}(hj:j<g.d.length){k:Nat}(hk:k<(dL g j).length):(∀d∈(aZ g).ds.take j,ix (dL g j) k∉d.2)/\ix (dL g j) k∉(dL g j).take k:=by
 unfold GL.eY at hn;have h1:(aZ g).ds=(aZ g).ds.take j++(dW g j,dL g j)::(aZ g).ds.drop (j+1):=by rw[<-OJ hj,<-Ld (by rw[yg];exact hj),List.take_append_drop]
 rw[h1,cT,ik,gA]at hn;obtain⟨-,h2,h3⟩:=hn;refine⟨λd hd hm=>h3 _ (cF.mpr ⟨d,hd,hm⟩) _ (iu _ (lK hk)) rfl,λhm=>?_⟩;rw[gA]at h2;have h4:=h2.1;have h5:(dL g j)=(dL g j).take k++ix (dL g j) k::(dL g j).drop (k+1):=by rw[<-Ld hk,List.take_append_drop]
 have h4:(dL g j).Nodup:=h4;rw[h5,gA]at h4;exact h4.2.2 _ hm _ kc rfl
def aiO{g:gB}(x:Nat->Rat)(hn:(aZ g).eY.Nodup){j:Nat}(hj:j<g.d.length){k:Nat}(hk:k<(ix g.d j).l.length){e c:Nat}(EJ:ix (ix g.d j).l k=⟨.ofNat e,.ofNat c⟩):
  rJ (rC (FV g x j k)) e c (ig (aeL (dW g j) (λk=>gq (aZ g) x (zH (ix (ix g.d j).l k))) k))=rC (FV g x j (k+1)):=by
 have hlen:(dL g j).length=(ix g.d j).l.length:=dc _
 have hix:∀k,k<(ix g.d j).l.length->ix (dL g j) k=zH (ix (ix g.d j).l k):=λk hk=>XL zH hk
 have hl:ix (dL g j) k=(e,c):=by rw[hix k hk,EJ];rfl
 obtain⟨h1,h2⟩:=am3 hn hj (by rw[hlen];exact hk)
 rw[hl]at h1 h2
 have h3:U8 g x j (e,c)=0:=iM λd hd=>U5 (h1 d hd)
 have hs:∀m,m<=(ix g.d j).l.length->aB m (λk=>gq (aZ g) x (zH (ix (ix g.d j).l k)))=aK ((dL g j).take m) (gq (aZ g) x):=λm hm=>by rw[<-OL jb];exact aJ λi hi=>by rw[hix i jb]
 funext i' c'
 unfold rJ rC FV
 rw[bP jb,Ro,hl]
 by_cases h:i'=e/\c'=c
 .rw[ab h,h.1,h.2,ab rfl,h3,U5 h2]
  unfold aeL
  rw[hs k jb,hs (k+1) jb,bP jb,mM,hl]
  simp only[gm]
 .rw[ae h,ae λe=>h ⟨(Prod.mk.inj e).1.symm,(Prod.mk.inj e).2.symm⟩]
  simp only[cY]
def aiP(n i:Nat):sH n (i+1)=aN (sH n i) 4 (sH n i 4+1):=by
 funext k;unfold aN;by_cases h:k=4
 .subst h;rfl
 .rw[ae h];unfold sH;split<;>first|rfl|omega
section
variable {g:gB} {x:Nat→Rat} {p:Nat→Prop} {h:Tr Bk} {nn bb:Nat→Nat} {T:Nat→Nat→B} {m:Nat} {R:Nat→Nat→Rat} {bs:Nat→Nat} {lo hi:Nat}
def Bh.rows(hS:Bh g x p h nn bb T m R bs lo hi){k:Nat}{f:Nat->Nat->Rat}(hE:sE k=1)(hG:∀j,sG g x T bs k j=[T k j])(hQ:∀j,sQ g x T k p h j->P6 (T k) (kE g.e) f p h j){q:Nat->Prop}(hq:∀b,lo<=b->b<hi->q b):dV q h (aS (nn k) (bb k)) (nn k) (kE g.e) f:=by have hel:=λi (hi:i<nn k)=>hQ i (hS.f.q k i hi);have h1:=hS.f.hlp k (q:=q) jb (λj hj=>by rw[hG j];simp only[cV,et,aY.kn (hel j hj),eg]) hq;rw[hE]at h1;exact⟨T k,h1.congr λi _=>hG i,λi hi=>aY.keep (hel i hi) (λ_ _=>rfl) λb hb=>hq b (hS.f.pp b hb).1 (hS.f.pp b hb).2⟩
def Bh.row(hS:Bh g x p h nn bb T m R bs lo hi){n i:Nat}(hn:nn 3=n)(hi:i<n):ld h (bb 3) (i*1) 1 false=some (.c (.sl (bs i) 0 (kE g.e i) (.ex (kE g.e i)))):=by obtain⟨b7,o7,c7,e7,-,dh⟩:=aY.pos (hS.f.hlp 3 (q:=λ_=>True) jj (λ_ _=>rfl) λ_ _ _=>trivial) (show 0<nn 3 by omega);rw[rU jb]at e7;cases e7;have:=(vK (dh i jb)).1;rw[cD]at this;exact this
end
end Go.Proofs.Xe
