import Derived.Test.YtchhojplceoifaaGreatDoorYe28
set_option linter.all false
namespace Go.Proofs.Xe
open Go.RowKit Go.Proofs.Ins
structure av4(D:Nat)(g:gB)(x:Nat->Rat):Prop where
 hD:Ce D
 n:g.e.length<=1000
 d:g.d.length<=1000
 e:∀i,i<g.e.length->EOk D (kE g.e i) (dX (ix g.e i))/\MOk D (dX (ix g.e i)) (x i)/\Sz (rW (ix g.e i) (kE g.e i))/\Sz (x i-rW (ix g.e i) (kE g.e i))
 k:∀i,i<g.e.length->kE g.e i<=1000
 w:∀d,d<g.d.length->(ix g.d d).w.fits 1000000/\0<=(ix g.d d).w.q/\Zk D 1 (ix g.d d).w.q
 l:∀d,d<g.d.length->(ix g.d d).l.length<=1000/\∀k,k<(ix g.d d).l.length->∃e c:Nat,ix (ix g.d d).l k=⟨.ofNat e,.ofNat c⟩/\e<g.e.length/\c<kE g.e e
 q:∀i,i<g.e.length->∀c,c<kE g.e i->0<=gq (aZ g) x (i,c)/\Zk D 1 (gq (aZ g) x (i,c))
 r:∀i,i<g.e.length->∀c,c<kE g.e i->Sz (yu (aZ g) x (i,c))
 nd:(aZ g).fA.Nodup
def grF(g:gB)(x:Nat->Rat)(i c:Nat):Rat:=AA (dX (ix g.e i)) (x i) c
def Qm(g:gB)(x:Nat->Rat)(i c:Nat):Rat:=uh (dX (ix g.e i)) (x i) c
def suF(g:gB)(x:Nat->Rat)(i:Nat):Rat:=Hw (x i-rW (ix g.e i) (kE g.e i)) 0
def rsF(g:gB)(x:Nat->Rat)(i:Nat):Rat:=rsv (dX (ix g.e i)) (x i)
def fuF(g:gB)(x:Nat->Rat)(i:Nat):Bool:=decide (0<=oQ (x i) (rW (ix g.e i) (kE g.e i)))
def sG(g:gB)(x:Nat->Rat)(T:Nat->Nat->B)(bs:Nat->Nat):Nat->Nat->List B
 |1=>λi=>[T 1 i]
 |2=>λi=>[T 2 i]
 |3=>λi=>[yC (kE g.e) bs i]
 |4=>λi=>[T 4 i]
 |5=>λi=>gy (suF g x i)
 |6=>λi=>gy (rsF g x i)
 |7=>λi=>[.bool (fuF g x i)]
 |_=>λ_=>[]
def sE:Nat->Nat
 |1=>1
 |2=>1
 |3=>1
 |4=>1
 |5=>3
 |6=>3
 |7=>1
 |_=>0
def sT:Nat->Nat
 |1=>30
 |2=>30
 |3=>30
 |4=>30
 |5=>50
 |6=>50
 |7=>4
 |_=>0
def sQ(g:gB)(x:Nat->Rat)(T:Nat->Nat->B):Nat->(Nat->Prop)->Tr Bk->Nat->Prop
 |1=>Qk (T 1) (kE g.e) (grF g x)
 |2=>Qk (T 2) (kE g.e) (Qm g x)
 |4=>Qk (T 4) (kE g.e) λi c=>JA (aZ g) x (i,c)
 |_=>NoQ
def OY(g:gB)(x:Nat->Rat)(T:Nat->Nat->B)(bs:Nat->Nat)(k:Nat):LG (sG g x T bs k) (sE k):=by intro j;unfold sG sE;split<;>rfl
def Qn(g:gB)(x:Nat->Rat)(T:Nat->Nat->B)(k j:Nat):QK (sQ g x T k) j:=by
 unfold sQ;split
 .exact DV _ _ _ j
 .exact DV _ _ _ j
 .exact DV _ _ _ j
 .exact BN j
def rY(T:Nat->Nat->B)(k i:Nat)(v:B):Nat->Nat->B:=λk' j=>if k'=k/\j=i then v else T k' j
def L8{T:Nat->Nat->B}{k i k' j:Nat}(h:k'≠k\/j≠i)(v:B):rY T k i v k' j=T k' j:=ae jb
def mP(T:Nat->Nat->B)(k i:Nat)(v:B):rY T k i v k i=v:=ab ⟨rfl,rfl⟩
def aaU{g:gB}{x:Nat->Rat}{T:Nat->Nat->B}{bs:Nat->Nat}{k i:Nat}{v:B}{k' j:Nat}(h:k'=k->j<i):sG g x (rY T k i v) bs k' j=sG g x T bs k' j:=by
 have hu:∀a,k'=a->rY T k i v a j=T a j:=λa e=>L8 (by by_cases e2:a=k;exact .inr (by have:=h (e.trans e2);omega);exact .inl e2) v;unfold sG;split
 .show [rY T k i v 1 j]=_;rw[hu 1 rfl]
 .show [rY T k i v 2 j]=_;rw[hu 2 rfl]
 .rfl
 .show [rY T k i v 4 j]=_;rw[hu 4 rfl]
 .rfl
 .rfl
 .rfl
 .rfl
def aaV{g:gB}{x:Nat->Rat}{T:Nat->Nat->B}{k i:Nat}{v:B}{k' j:Nat}(h:k'=k->j<i){p:Nat->Prop}{H:Tr Bk}(hq:sQ g x T k' p H j):sQ g x (rY T k i v) k' p H j:=by
 have hu:∀a,k'=a->rY T k i v a j=T a j:=λa e=>L8 (by by_cases e2:a=k;exact .inr (by have:=h (e.trans e2);omega);exact .inl e2) v;unfold sQ at hq⊢;split
 .show aY _ _ _ (rY T k i v 1 j) _ _;rw[hu 1 rfl];exact hq
 .show aY _ _ _ (rY T k i v 2 j) _ _;rw[hu 2 rfl];exact hq
 .show aY _ _ _ (rY T k i v 4 j) _ _;rw[hu 4 rfl];exact hq
 .trivial
def asJ{g:gB}{x:Nat->Rat}{T:Nat->Nat->B}{bs:Nat->Nat}{m nb j:Nat}(k:Nat)(h:k=3->j<m):sG g x T (aN bs m nb) k j=sG g x T bs k j:=by
 unfold sG;split
 .rfl
 .rfl
 .show [yC _ _ j]=_;have:=h rfl;rw[Ya jb]
 all_goals rfl
def DX(cm:B)(nn bb:Nat->Nat):List B:=[cm,aS (nn 1) (bb 1),aS (nn 2) (bb 2),aS (nn 3) (bb 3),aS (nn 4) (bb 4),aS (nn 5) (bb 5),aS (nn 6) (bb 6),aS (nn 7) (bb 7)]
def rC(R:Nat->Nat->Rat)(i c:Nat):List B:=gy (R i c)
abbrev BA(g:gB)(x:Nat->Rat)(p:Nat->Prop)(h:Tr Bk)(nn bb:Nat->Nat)(T:Nat->Nat->B)(m:Nat)(R:Nat->Nat->Rat)(bs:Nat->Nat)(lo hi:Nat):Prop:=uZ p h nn bb (sG g x T bs) sE sT (sQ g x T) m (kE g.e) (rC R) bs lo hi
def sN(i m:Nat):Nat->Nat
 |1=>i
 |2=>i
 |3=>i
 |4=>m
 |5=>i
 |6=>i
 |7=>i
 |_=>0
def aaW(tm:Tr V)(rb sb mb n ob i lb xb:Nat)(lv dv:B):Prop:=Tr.ah tm 0=.c (.ptr sb 0)/\Tr.ah tm 1=.c (.sl mb 0 n (.ex n))/\Tr.ah tm 4=.c (.ptr rb 0)/\Tr.ah tm 5=.c (.ptr ob 0)/\Tr.ah tm 6=.c (.int .i64 (.ofNat i))/\Tr.ah tm 7=.c (.ptr lb 0)/\Tr.ah tm 8=.c dv/\Tr.ah tm 9=.c (.ptr xb 0)/\Tr.ah tm 25=.c lv/\Tr.ah tm 26=.c (.int .i64 (.ofNat n))/\Tr.ah tm 27=.c (.int .i64 (.ofNat i))
structure aaX(σ:St)(g:gB)(x:Nat->Rat)(cm:B)(ob i:Nat)(LB:List B)(lb xb:Nat)(dv:B)(nn:Nat->Nat)(m:Nat)(p:Nat->Prop)(bb:Nat->Nat)(T:Nat->Nat->B)(bs:Nat->Nat)(σ5:St):Prop where
 o:σ5.h ob=some ⟨DX cm nn bb,none⟩
 l:σ5.h lb=some ⟨LB,none⟩
 rx:σ5.h xb=some ⟨gy (rsF g x i),none⟩
 pl:p lb
 px:p xb
 d:jc p σ5.h dv (kE g.e i) (Qm g x i)
 S:BA g x p σ5.h nn bb T m (λ_ _=>0) bs (ob+1) σ5.aj
 f:Fr σ σ5
 n:ob+1<=σ5.aj
section
variable {σ σ5:St} {g:gB} {x:Nat→Rat} {cm:B} {ob i:Nat} {LB:List B} {lb xb:Nat} {dv:B} {nn:Nat→Nat} {m:Nat} {p p' : Nat→Prop} {bb:Nat→Nat} {T T' : Nat→Nat→B} {bs:Nat→Nat}
def aaX.push(H:aaX σ g x cm ob i LB lb xb dv nn m p bb T bs σ5)(k:Nat){hi1 nx n':Nat}{h1 h':Tr Bk}(hp:∀b,p b->p' b)(hp2:∀b,p' b->p b\/σ5.aj<=b/\b<hi1)(hQQ:∀k' j,j<nn k'->∀p h,sQ g x T k' p h j->sQ g x T' k' p h j)(hG:∀k' j,j<nn k'->sG g x T' bs k' j=sG g x T bs k' j)(hx:sQ g x T' k p' h1 (nn k))(hh:∀b,b<σ5.aj->h1 b=σ5.h b)
  (h2:σ5.aj<=hi1) (h3:hi1<=nx) (h4:nx<n'){y:List B}(hb:h' nx=some ⟨bV (nn k) (sG g x T bs k)++y,some (sE k,sT k)⟩) (hgn:y=sG g x T' bs k (nn k)) (hk:∀c,c≠ob->c<hi1->nn k=0\/c≠bb k->h' c=h1 c) (ho:h' ob=some ⟨DX cm (aN nn k (nn k+1)) (aN bb k nx),none⟩) (hf:Fr σ ⟨h',n'⟩):
  aaX σ g x cm ob i LB lb xb dv (aN nn k (nn k+1)) m p' (aN bb k nx) T' bs ⟨h',n'⟩:=by
 have hn:=H.n
 have hS:=H.S.push k hp hp2 (Qn g x T') hQQ hG (OY g x T' bs) hx (λb _ hb=>hh b hb) h2 h3 h4 hn hb hgn λc hc h5 h6=>hk c jb h5 h6
 have hs:=H.S.same k (λb _ hb=>hh b hb) h2 λc hc h5 h6=>hk c jb h5 h6
 exact⟨ho,(hs _ H.pl).trans H.l,(hs _ H.px).trans H.rx,hp _ H.pl,hp _ H.px,aY.keep H.d hs hp,hS,hf,by show ob+1<=n';omega⟩
def aaX.pushRow(H:aaX σ g x cm ob i LB lb xb dv nn m p bb T bs σ5)(hm:nn 3<=m){hi1 nx n' nb:Nat}{h1 h':Tr Bk}(hh:∀b,b<σ5.aj->h1 b=σ5.h b)(h2:σ5.aj<=hi1)(h3:hi1<=nx)(h4:nx<n'){y:List B}(hb:h' nx=some ⟨bV (nn 3) (sG g x T bs 3)++y,some (1,30)⟩)(hgn:y=[yC (kE g.e) (aN bs m nb) (nn 3)])(hk:∀c,c≠ob->c<hi1->nn 3=0\/c≠bb 3->h' c=h1 c)(ho:h' ob=some ⟨DX cm (aN nn 3 (nn 3+1)) (aN bb 3 nx),none⟩)(hf:Fr σ ⟨h',n'⟩)
  (h6:σ5.aj<=nb) (h7:nb<hi1) (hr:h' nb=some ⟨bV (kE g.e m) λ_=>gy 0,none⟩):
  aaX σ g x cm ob i LB lb xb dv (aN nn 3 (nn 3+1)) (m+1) p (aN bb 3 nx) T (aN bs m nb) ⟨h',n'⟩:=by
 have hn:=H.n
 have hS:=H.S.pushRow 3 (Qn g x T) (λ_ _ _ _ _ h=>h) (λk j hj=>asJ (m:=m) (nb:=nb) k λe=>by subst e;omega) (OY g x T _) trivial (λb _ hb=>hh b hb) h2 h3 h4 hn hb hgn (λc hc h5 h6=>hk c jb h5 h6) h6 h7 hr
 have hs:=H.S.same 3 (λb _ hb=>hh b hb) h2 λc hc h5 h6=>hk c jb h5 h6
 exact⟨ho,(hs _ H.pl).trans H.l,(hs _ H.px).trans H.rx,H.pl,H.px,aY.keep H.d hs λ_ h=>h,hS,hf,by show ob+1<=n';omega⟩
end
def dW(g:gB)(j:Nat):Rat:=(ix g.d j).w.q
def dL(g:gB)(j:Nat):List fM:=(ix g.d j).l.map zK
def Vk(g:gB)(x:Nat->Rat)(j:Nat)(l:fM):Rat:=aK ((aZ g).ds.take j) λd=>vV d.1 (gq (aZ g) x) 0 d.2 l
def Gf(g:gB)(x:Nat->Rat)(j k:Nat)(i c:Nat):Rat:=Vk g x j (i,c)+vV (dW g j) (gq (aZ g) x) 0 ((dL g j).take k) (i,c)
theorem OZ{g:gB}{j:Nat}(h:j<g.d.length):ix (aZ g).ds j=(dW g j,dL g j):=X0 (λd:yB=>(d.w.q,d.l.map zK)) h
theorem yw(g:gB):(aZ g).ds.length=g.d.length:=di _
def RZ{g:gB}(x:Nat->Rat){j:Nat}(h:j<g.d.length)(l:fM):Vk g x (j+1) l=Vk g x j l+vV (dW g j) (gq (aZ g) x) 0 (dL g j) l:=by unfold Vk;rw[bW (by rw[yw];exact h),mM,OZ h]
def Ye(g:gB)(x:Nat->Rat)(l:fM):Vk g x g.d.length l=yu (aZ g) x l:=by unfold Vk yu;rw[<-yw,cC]
def JE(g:gB)(x:Nat->Rat)(j:Nat):Gf g x j 0=λi c=>Vk g x j (i,c):=by funext i c;unfold Gf;rw[cM];exact dc _
def ai3{g:gB}(x:Nat->Rat){j:Nat}(h:j<g.d.length):Gf g x j (ix g.d j).l.length=Gf g x (j+1) 0:=by rw[JE];funext i c;rw[RZ x h];unfold Gf;have:(ix g.d j).l.length=(dL g j).length:=(di _).symm;rw[this,cC]
theorem O1{f:fM->Rat}{t:List fM}:∀{k:Nat},k<=t.length->aB k (λi=>f (ix t i))=aK (t.take k) f
 |0,_=>rfl
 |k+1,h=>by rw[bW jb,mM,<-O1 jb];rfl
def ano{g:gB}(hn:(aZ g).fA.Nodup){j:Nat}(hj:j<g.d.length){k:Nat}(hk:k<(dL g j).length):(∀d∈(aZ g).ds.take j,ix (dL g j) k∉d.2)/\ix (dL g j) k∉(dL g j).take k:=by
 unfold GL.fA at hn;have h1:(aZ g).ds=(aZ g).ds.take j++(dW g j,dL g j)::(aZ g).ds.drop (j+1):=by rw[<-OZ hj,<-LH (by rw[yw];exact hj),List.take_append_drop]
 rw[h1,cU,im,gL]at hn;obtain⟨-,h2,h3⟩:=hn;refine⟨λd hd hm=>h3 _ (cG.mpr ⟨d,hd,hm⟩) _ (iz _ (lQ hk)) rfl,λhm=>?_⟩;rw[gL]at h2;have h4:=h2.1;have h5:(dL g j)=(dL g j).take k++ix (dL g j) k::(dL g j).drop (k+1):=by rw[<-LH hk,List.take_append_drop]
 have h4:(dL g j).Nodup:=h4;rw[h5,gL]at h4;exact h4.2.2 _ hm _ kc rfl
def ai4{g:gB}(x:Nat->Rat)(hn:(aZ g).fA.Nodup){j:Nat}(hj:j<g.d.length){k:Nat}(hk:k<(ix g.d j).l.length){e c:Nat}(Ci:ix (ix g.d j).l k=⟨.ofNat e,.ofNat c⟩):
  rO (rC (Gf g x j k)) e c (gy (ae3 (dW g j) (λk=>gq (aZ g) x (zK (ix (ix g.d j).l k))) k))=rC (Gf g x j (k+1)):=by
 have hlen:(dL g j).length=(ix g.d j).l.length:=di _
 have hix:∀k,k<(ix g.d j).l.length->ix (dL g j) k=zK (ix (ix g.d j).l k):=λk hk=>X0 zK hk
 have hl:ix (dL g j) k=(e,c):=by rw[hix k hk,Ci];rfl
 obtain⟨h1,h2⟩:=ano hn hj (by rw[hlen];exact hk)
 rw[hl]at h1 h2
 have h3:Vk g x j (e,c)=0:=iO λd hd=>Vh (h1 d hd)
 have hs:∀m,m<=(ix g.d j).l.length->aB m (λk=>gq (aZ g) x (zK (ix (ix g.d j).l k)))=aK ((dL g j).take m) (gq (aZ g) x):=λm hm=>by rw[<-O1 jb];exact aJ λi hi=>by rw[hix i jb]
 funext i' c'
 unfold rO rC Gf
 rw[bW jb,RP,hl]
 by_cases h:i'=e/\c'=c
 .rw[ab h,h.1,h.2,ab rfl,h3,Vh h2]
  unfold ae3
  rw[hs k jb,hs (k+1) jb,bW jb,mM,hl]
  simp only[gw]
 .rw[ae h,ae λe=>h ⟨(Prod.mk.inj e).1.symm,(Prod.mk.inj e).2.symm⟩]
  simp only[dc]
def ai5(n i:Nat):sN n (i+1)=aN (sN n i) 4 (sN n i 4+1):=by
 funext k;unfold aN;by_cases h:k=4
 .subst h;rfl
 .rw[ae h];unfold sN;split<;>first|rfl|omega
section
variable {g:gB} {x:Nat→Rat} {p:Nat→Prop} {h:Tr Bk} {nn bb:Nat→Nat} {T:Nat→Nat→B} {m:Nat} {R:Nat→Nat→Rat} {bs:Nat→Nat} {lo hi:Nat}
def BA.rows(hS:BA g x p h nn bb T m R bs lo hi){k:Nat}{f:Nat->Nat->Rat}(hE:sE k=1)(hG:∀j,sG g x T bs k j=[T k j])(hQ:∀j,sQ g x T k p h j->Qk (T k) (kE g.e) f p h j){q:Nat->Prop}(hq:∀b,lo<=b->b<hi->q b):dY q h (aS (nn k) (bb k)) (nn k) (kE g.e) f:=by have hel:=λi (hi:i<nn k)=>hQ i (hS.f.q k i hi);have h1:=hS.f.hlp k (q:=q) jb (λj hj=>by rw[hG j];simp only[cW,eA,aY.kn (hel j hj),eh]) hq;rw[hE]at h1;exact⟨T k,h1.congr λi _=>hG i,λi hi=>aY.keep (hel i hi) (λ_ _=>rfl) λb hb=>hq b (hS.f.pp b hb).1 (hS.f.pp b hb).2⟩
def BA.row(hS:BA g x p h nn bb T m R bs lo hi){n i:Nat}(hn:nn 3=n)(hi:i<n):ld h (bb 3) (i*1) 1 false=some (.c (.sl (bs i) 0 (kE g.e i) (.ex (kE g.e i)))):=by obtain⟨b7,o7,c7,e7,-,dw⟩:=aY.pos (hS.f.hlp 3 (q:=λ_=>True) jj (λ_ _=>rfl) λ_ _ _=>trivial) (show 0<nn 3 by omega);rw[rX jb]at e7;cases e7;have:=(vT (dw i jb)).1;rw[cP]at this;exact this
end
end Go.Proofs.Xe
