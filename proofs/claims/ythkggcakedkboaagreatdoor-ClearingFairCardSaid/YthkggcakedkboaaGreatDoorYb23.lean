import Derived.Test.YthkggcakedkboaaGreatDoorYb22
set_option linter.all false
namespace Go.Proofs.Xe
open Go.RowKit Go.Proofs.Ins
structure lH(h:Tr Bk)(n:Nat)(k:Nat->Nat)(C:Nat->Nat->List B)(bs:Nat->Nat)(lo hi:Nat):Prop where
 r:∀i,i<n->h (bs i)=some ⟨bP (k i) (C i),none⟩/\lo<=bs i/\bs i<hi
 inj:∀i j,i<n->j<n->bs i=bs j->i=j
def xW(k bs:Nat->Nat)(i:Nat):B:=.sl (bs i) 0 (k i) (.ex (k i))
section
variable {h h' : Tr Bk} {n lo hi:Nat} {k bs:Nat→Nat} {C:Nat→Nat→List B}
theorem lH.nil(h:Tr Bk)(k:Nat->Nat)(C:Nat->Nat->List B)(bs:Nat->Nat)(lo hi:Nat):lH h 0 k C bs lo hi:=⟨λi hi=>jb,λi j hi=>jb⟩
def lH.mono(ho:lH h n k C bs lo hi)(hh:∀b,lo<=b->b<hi->h' b=h b){lo' hi':Nat}(h1:lo'<=lo)(h2:hi<=hi'):lH h' n k C bs lo' hi':=
 ⟨λi hi=>by obtain⟨k1,k2,k3⟩:=ho.r i hi;grind,ho.inj⟩
def lH.mono'(ho:lH h n k C bs lo hi)(hh:∀i,i<n->h' (bs i)=h (bs i)){lo' hi':Nat}(h1:lo'<=lo)(h2:hi<=hi'):lH h' n k C bs lo' hi':=
 ⟨λi hi=>by obtain⟨k1,k2,k3⟩:=ho.r i hi;grind,ho.inj⟩
def lH.congr{C':Nat->Nat->List B}(ho:lH h n k C bs lo hi)(hc:∀i,i<n->∀c,c<k i->C i c=C' i c):lH h n k C' bs lo hi:=
 ⟨λi hi=>by obtain⟨k1,k2,k3⟩:=ho.r i hi;grind[cO],ho.inj⟩
def lH.push(ho:lH h n k C bs lo hi){nb:Nat}{c:List B}(hb:h' nb=some ⟨c,none⟩)(hc:c=bP (k n) (C n))(hn:hi<=nb){hi':Nat}(h2:nb<hi')(hl:lo<=nb)(hh:∀b,lo<=b->b<hi->(∃i,i<n/\b=bs i)->h' b=h b):lH h' (n+1) k C (aO bs n nb) lo hi':=by
 refine⟨λi hi1=>?_,λi j hi1 hj e=>?_⟩
 .by_cases e:i=n
  .grind[aN]
  .obtain⟨k1,k2,k3⟩:=ho.r i jb;grind[aQ]
 .by_cases e1:i=n<;>by_cases e2:j=n
  .omega
  .exfalso;rw[e1,aN,aQ _ _ _ _ e2]at e;have:=(ho.r j jb).2.2;omega
  .exfalso;rw[e2,aN,aQ _ _ _ _ e1]at e;have:=(ho.r i jb).2.2;omega
  .rw[aQ _ _ _ _ e1,aQ _ _ _ _ e2]at e;exact ho.inj i j jb jb e
def rE(C:Nat->Nat->List B)(i c:Nat)(x:List B):Nat->Nat->List B:=λi' c'=>if i'=i/\c'=c then x else C i' c'
def lH.set(ho:lH h n k C bs lo hi){i c:Nat}{x l:List B}(hi1:i<n)(hl:l=bP (k i) (ji (C i) c x)):lH (hset h (bs i) ⟨l,none⟩) n k (rE C i c x) bs lo hi:=by
 refine⟨λj hj=>?_,ho.inj⟩;obtain⟨k1,k2,k3⟩:=ho.r j hj;by_cases e:j=i
 .grind[Go.Proofs.Xe.aA,Go.Proofs.Xe.cO,Go.Proofs.Xe.ji,Go.Proofs.Xe.rE]
 .rw[au _ _ _ _ (λe2=>e (ho.inj j i hj hi1 e2)),k1];grind[Go.Proofs.Xe.cO,Go.Proofs.Xe.rE]
def lH.hlp(ho:lH h n k C bs lo hi){p:Nat->Prop}{e:Nat}(hp:∀b,lo<=b->b<hi->p b)(he:0<e)(hC:∀i c,(C i c).length=e)(hk:∀i c,i<n->c<k i->(C i c).all B.kn=true){i:Nat}(hi1:i<n):aZ p h e (xW k bs i) (k i) (C i):=by obtain⟨k1,k2,k3⟩:=ho.r i hi1;exact bf _ k1 rfl (hp _ k2 k3) (hC i) he λc hc=>hk i c hi1 hc
end
def aeS(G:Nat->List B)(i:Nat)(a b:List B):ji (ji G i a) i b=ji G i b:=by grind[ji]
def XM{G:Nat->List B}{e i:Nat}{x:List B}(hG:∀j,(G j).length=e)(hx:x.length=e)(j:Nat):(ji G i x j).length=e:=by grind[ji]
def acD(G:Nat->List B)(i:Nat)(x:List B):ji G i x i=x:=ab rfl
def amZ(t:dJ):LG (λj=>zV (ix t j)) 4:=λ_=>rfl
set_option maxRecDepth 10000 in
def air{σ:St}(hW:WF σ){b n r:Nat}{G:Nat->List B}{o:Option (Nat×Nat)}(hb:σ.h b=some ⟨bP n G,o⟩)(hr:r<n)(hG:∀j,(G j).length=4)(hpl:plo o=true)(hrd:YU o=true){t:dJ}{bs:Nat}(hGr:G r=jQ (aV t.length bs) (aT t))(hT:OA σ.h bs t)(hne:t.length=0\/bs≠b)(hbs:t.length=0\/bs<σ.aj)(hl:t.length<=1000000)(k:Int)(q:Rat)(hs:Sz (aT t))(hq:Sz q):
  aC EN 93 [.c (.ptr b (r*4)),.c (.int .i64 k),.agg [.bool (rn q),.str (rs q),.str (rd q)]] σ λ_ σ'=>∃nx,σ.aj<=nx/\nx<σ'.aj/\σ'.h b=some ⟨bP n (ji G r (jQ (.sl nx 0 (t.length+1) .opn) (aT t+q))),o⟩/\σ'.h nx=some ⟨bP t.length (λj=>zV (ix t j))++zV (k,q),some (4,203)⟩/\aU [b,bs] σ σ':=by
 refine aP (nG.o _ _) nG.h ?_
 unfold nG
 dsimp only
 have hbl:=hW.lt hb
 have hFr:=Fr.refl hW
 have l0:ld σ.h b (r*4) 1 false=some (.c (aV t.length bs)):=by have:=yS (k:=0) (m:=1) false hG hr jj jj;rw[cE,hGr]at this;rw[ak hb,NG];dsimp only;rw[hrd,cC,this];unfold jQ zH;simp[KL]
 have w0:∀x:B,yj (bP n G) (r*4) [x]=some (bP n (ji G r (jQ x (aT t)))):=λx=>by have:=Aq (k:=0) (vs:=[x]) hG hr kc;rw[cE]at this;rw[this,hGr];rfl
 have r1:∀x:B,zH (bP n (ji G r (jQ x (aT t)))) (r*4+1) 3 true=some (.agg [.bool (rn (aT t)),.str (rs (aT t)),.str (rd (aT t))]):=λx=>by have:=yS (k:=1) (m:=3) (G:=ji G r (jQ x (aT t))) true (XM hG rfl) hr jj jj;rw[this,acD];rfl
 have w1:∀x a c d:B,yj (bP n (ji G r (jQ x (aT t)))) (r*4+1) [a,c,d]=some (bP n (ji G r [x,a,c,d])):=λx a c d=>by have:=Aq (k:=1) (vs:=[a,c,d]) (G:=ji G r (jQ x (aT t))) (XM hG rfl) hr kc;rw[this,acD,<-aeS G r (jQ x (aT t)) [x,a,c,d]];rfl
 have hLG:=amZ t
 unfold OA at hT
 simp(disch:=try exact jz) only[go_sem,z3,l0,aJ hb,w0,r1,w1,hpl,hrd,hb,hT]
 refine⟨σ.aj+1+1,jb,jb,?_,?_,?_⟩
 .rfl
 .rw[au _ _ _ _ jb,au _ _ _ _ jb,aA];rfl
 .repeat(first|assumption|exact aU.refl (by assumption)|exact aU.up (by assumption) kf|exact aU.up (aU.refl (by assumption)) kf|refine aU.set1 ?_ kg kf|refine aU.kM ?_ kg|refine aU.nC ?_ kg|refine aU.ou ?_ kf)
end Go.Proofs.Xe
namespace Go.Proofs.Ins
structure GL where
 e:Nat->fA
 k:Nat->Nat
 h:Nat->Nat->Int
 ds:List (Rat×List eX)
def GL.fH(g:GL):List eX:=g.ds.flatMap (·.2)
def gq(g:GL)(x:Nat->Rat)(l:eX):Rat:=rX (g.e l.1) (x l.1) l.2
def gs(g:GL)(x:Nat->Rat)(i:Nat)(l:eX):Rat:=if l.1=i then xH (g.e l.1) (x l.1) l.2 else 0
def P8(g:GL)(d:Rat×List eX):Int:=match d.2 with|[]=>-1|l::_=>g.h l.1 l.2
def dG(g:GL)(x:Nat->Rat)(j:Nat)(d:Rat×List eX):Rat:=(if P8 g d=(j:Int)then jP d.1 (aI d.2 (gq g x))else 0)+qh d.1 (gq g x) 0 d.2 j
def dM(g:GL)(x:Nat->Rat)(j i:Nat)(d:Rat×List eX):Rat:=
 (if P8 g d=(j:Int)then aI d.2 (gs g x i)-nT d.1 (aI d.2 (gq g x)) (aI d.2 (gs g x i))else 0)+jh d.1 (gq g x) (gs g x i) 0 0 0 d.2 j
def wu(g:GL)(j i c:Nat):Bool:=!(g.fH.contains (i,c))&&g.h i c==(j:Int)
def gG(n:Nat)(g:GL)(x:Nat->Rat)(j:Nat):Rat:=aB n (λi=>aB (g.k i) λc=>if wu g j i c then gq g x (i,c)else 0)+aI g.ds (dG g x j)
def gM(n:Nat)(g:GL)(x:Nat->Rat)(j i:Nat):Rat:=aB (g.k i) (λc=>if wu g j i c then gs g x i (i,c)else 0)+aI g.ds (dM g x j i)
structure IV(n:Nat)(g:GL):Prop where
 nn:∀i,i<n->zU (g.e i)
 inn:∀i,i<n->InE (g.k i) (g.e i)
 hold:∀i c,i<n->c<g.k i->g.h i c=-1\/0<=g.h i c/\g.h i c<n
 fH:∀l∈g.fH,l.1<n/\l.2<g.k l.1
 nodup:g.fH.Nodup
 pos:∀d∈g.ds,0<=d.1
section
variable {n:Nat} {g:GL}
def aeT(hg:IV n g){d:Rat×List eX}(hd:d∈g.ds):P8 g d=-1\/0<=P8 g d/\P8 g d<n:=by
 unfold P8;split
 .omega
 .next l t e=>
  have h1:=hg.fH l (by grind[GL.fH]);exact hg.hold _ _ h1.1 h1.2
def rF(hg:IV n g){d:Rat×List eX}(hd:d∈g.ds){l:eX}(hl:l∈d.2):l.1<n:=
 (hg.fH l (cF.mpr ⟨d,hd,hl⟩)).1
def arL(hg:IV n g){d:Rat×List eX}(hd:d∈g.ds)(v:Rat):aB n (λj=>if P8 g d=(j:Int)then v else 0)=if P8 g d=-1 then 0 else v:=by
 rcases aeT hg hd with h|⟨h1,h2⟩
 .grind[bI]
 .rw[ae jb,jq (k:=(P8 g d).toNat) jb λj _ hne=>ae jb,ab jb]
def am0(hg:IV n g){i c:Nat}(hi:i<n)(hc:c<g.k i)(v:Rat):aB n (λj=>if wu g j i c then v else 0)=if(i,c)∈g.fH\/g.h i c=-1 then 0 else v:=by
 by_cases hl:(i,c)∈g.fH
 .grind[bI,wu]
 .rcases hg.hold i c hi hc with h|⟨h1,h2⟩
  .grind[bI,wu]
  .rw[ae kd,jq (k:=(g.h i c).toNat) jb λj _ hne=>?_,ab ?_]
   .grind[wu]
   grind[wu]
theorem J5(hg:IV n g){x:Nat->Rat}(hx:Nn n x){l:eX}(hl:l.1<n):0<=gq g x l:=Jr (hg.nn _ hl) (hx _ hl) _
def iy(n:Nat)(q:eX->Rat)(l:eX):Rat:=if l.1<n then q l else 0
theorem Lh{W:Rat}{q:eX->Rat}(j:Nat):∀(t:List eX) (Q:Rat),(∀l∈t,l.1<n)->qh W (iy n q) Q t j=qh W q Q t j
 |[],_,_=>rfl
 |l::t,Q,h=>by have e:iy n q l=q l:=ab (h l kc);unfold qh;rw[e,Lh j t _ λu hu=>h u (by simp[hu])]
theorem UK{W:Rat}{q r:eX->Rat}(j:Nat):∀(t:List eX) (Q R B:Rat),(∀l∈t,l.1<n)->jh W (iy n q) (iy n r) Q R B t j=jh W q r Q R B t j
 |[],_,_,_,_=>rfl
 |l::t,Q,R,B,h=>by have e:iy n q l=q l:=ab (h l kc);have e2:iy n r l=r l:=ab (h l kc);unfold jh;rw[e,e2,UK j t _ _ _ λu hu=>h u (by simp[hu])]
def am1(hg:IV n g){x y:Nat->Rat}(hx:Nn n x)(hxy:Le n x y)(j:Nat):gG n g x j<=gG n g y j:=by
 unfold gG;have h1:∀l:eX,l.1<n->gq g x l<=gq g y l:=λl hl=>Oi (hg.nn _ hl) (hx _ hl) (hxy _ hl) _;have h2:aB n (λi=>aB (g.k i) λc=>if wu g j i c then gq g x (i,c)else 0)<=aB n λi=>aB (g.k i) λc=>if wu g j i c then gq g y (i,c)else 0:=
  nR λi hi=>nR λc _=>by grind
 have h3:aI g.ds (dG g x j)<=aI g.ds (dG g y j):=nS λd hd=>by
  have hl:=λl hl=>rF hg hd (l:=l) hl;have a:aI d.2 (gq g x)<=aI d.2 (gq g y):=nS λl hl=>h1 l (rF hg hd hl);have b:=Ol (W:=d.1) (q:=iy n (gq g x)) (q':=iy n (gq g y)) (λl=>by
   grind[iy,J5]) (λl=>by
   grind[iy]) j d.2 0 0 aM
  grind[Lh,jP,dG]
 grind
def XO(gf:eX->Rat):∀L:List eX,L.Nodup->(∀l∈L,l.1<n/\l.2<g.k l.1)->aB n (λi=>aB (g.k i) λc=>if(i,c)∈L then gf (i,c)else 0)=aI L gf
 |[],_,_=>bI λi _=>bI λc _=>by simp
 |p::t,hn,hl=>by
  rw[gm]at hn;have hp:=hl p kc;have e:aB n (λi=>aB (g.k i) λc=>if(i,c)∈p::t then gf (i,c)else 0)=aB n λi=>(if i=p.1 then gf p else 0)+aB (g.k i) λc=>if(i,c)∈t then gf (i,c)else 0:=aK λi _=>by
   have e2:(if i=p.1 then gf p else 0)=aB (g.k i) λc=>if i=p.1/\c=p.2 then gf p else 0:=by grind[jq,bI]
   rw[e2,<-dF];grind
  have hd:aB n (λi=>if i=p.1 then gf p else 0)=gf p:=by grind[jq]
  rw[e,dF,hd,XO gf t hn.2 λl hl'=>hl l (by simp[hl'])];rfl
def aat{α:Type}(l:List α)(f:α->List eX)(gf:eX->Rat):aI (l.flatMap f) gf=aI l λa=>aI (f a) gf:=by
 induction l with
 |nil=>rfl
 |cons a l ih=>
  rw[eL]
  have:∀(u v:List eX),aI (u++v) gf=aI u gf+aI v gf:=λu v=>by
   induction u with
   |nil=>grind[aI]
   |cons x u ih=>
    grind[aI]
  rw[this,ih];rfl
def UC(g:GL)(x:Nat->Rat)(i c:Nat):Rat:=if(i,c)∉g.fH/\g.h i c=-1 then gq g x (i,c)else 0
def aeU(g:GL)(x:Nat->Rat)(d:Rat×List eX):Rat:=if P8 g d=-1 then jP d.1 (aI d.2 (gq g x))else 0
def ais(hg:IV n g)(x:Nat->Rat)(hx:Nn n x):aB n (λi=>x i-gG n g x i)=aB n (λi=>x i-aB (g.k i) (rX (g.e i) (x i)))+aB n (λi=>aB (g.k i) (UC g x i))+aI g.ds (aeU g x):=by
 have a1:aB n (λj=>aB n λi=>aB (g.k i) λc=>if wu g j i c then gq g x (i,c)else 0)=aB n λi=>aB (g.k i) λc=>if(i,c)∈g.fH\/g.h i c=-1 then 0 else gq g x (i,c):=by rw[zT];refine aK λi hi=>?_;simp_all[zT,aK,am0]
 have a2:aB n (λj=>aI g.ds (dG g x j))=aI g.ds λd=>(if P8 g d=-1 then 0 else jP d.1 (aI d.2 (gq g x)))+nI (aI d.2 (gq g x)-d.1):=by
  rw[D9 g.ds λd j=>dG g x j d];refine dV λd hd=>?_;have e:aB n (λj=>dG g x j d)=aB n (λj=>if P8 g d=(j:Int)then jP d.1 (aI d.2 (gq g x))else 0)+aB n λj=>qh d.1 (gq g x) 0 d.2 j:=by rw[<-dF];rfl
  rw[e,arL hg hd,aco d.2 0 λl hl=>rF hg hd hl];have h0:=hg.pos d hd;have e2:nI (0-d.1)=0:=by unfold nI;split<;>grind
  grind
 have a3:aB n (λi=>aB (g.k i) λc=>if(i,c)∈g.fH then gq g x (i,c)else 0)=aI g.ds λd=>aI d.2 (gq g x):=by rw[XO (gq g x) g.fH hg.nodup hg.fH];exact aat _ _ _
 have a4:aB n (λi=>aB (g.k i) λc=>if(i,c)∈g.fH\/g.h i c=-1 then 0 else gq g x (i,c))=aB n (λi=>aB (g.k i) (rX (g.e i) (x i)))-aB n (λi=>aB (g.k i) λc=>if(i,c)∈g.fH then gq g x (i,c)else 0)-aB n (λi=>aB (g.k i) (UC g x i)):=by
  rw[<-iF,<-iF];refine aK λi _=>?_;rw[<-iF,<-iF];refine aK λc _=>?_;have e:rX (g.e i) (x i) c=gq g x (i,c):=rfl;rw[e];unfold UC;by_cases h1:(i,c)∈g.fH
  .rw[ab (.inl h1),ab h1,ae λh=>h.1 h1];grind
  .by_cases h2:g.h i c=-1
   .rw[ab (.inr h2),ae h1,ab ⟨h1,h2⟩];grind
   .rw[ae (by simp[h1,h2]),ae h1,ae λh=>h2 h.2];grind
 have a5:aI g.ds (λd=>(if P8 g d=-1 then 0 else jP d.1 (aI d.2 (gq g x)))+nI (aI d.2 (gq g x)-d.1))=aI g.ds (λd=>aI d.2 (gq g x))-aI g.ds (aeU g x):=by
  rw[<-Ig];refine dV λd hd=>?_;unfold aeU;have e:jP d.1 (aI d.2 (gq g x))+nI (aI d.2 (gq g x)-d.1)=aI d.2 (gq g x):=by unfold jP nI;split<;>split<;>grind
  split<;>grind
 have a6:aB n (λi=>x i-gG n g x i)=aB n x-(aB n (λj=>aB n λi=>aB (g.k i) λc=>if wu g j i c then gq g x (i,c)else 0)+aB n λj=>aI g.ds (dG g x j)):=by rw[<-dF,<-iF];rfl
 grind[iF]
def am2(hg:IV n g){x y:Nat->Rat}(hx:Nn n x)(hxy:Le n x y):aB n (λi=>x i-gG n g x i)<=aB n (λi=>y i-gG n g y i):=by
 rw[ais hg x hx,ais hg y (hx.le hxy)];have h0:∀l:eX,l.1<n->gq g x l<=gq g y l:=λl hl=>Oi (hg.nn _ hl) (hx _ hl) (hxy _ hl) _;have h1:aB n (λi=>x i-aB (g.k i) (rX (g.e i) (x i)))<=aB n (λi=>y i-aB (g.k i) (rX (g.e i) (y i))):=
  nR λi hi=>XE (hg.nn i hi) (hg.inn i hi) (hx i hi) (hxy i hi)
 have h2:aB n (λi=>aB (g.k i) (UC g x i))<=aB n (λi=>aB (g.k i) (UC g y i)):=nR λi hi=>nR λc _=>by grind[UC]
 have h3:aI g.ds (aeU g x)<=aI g.ds (aeU g y):=nS λd hd=>by have a:aI d.2 (gq g x)<=aI d.2 (gq g y):=nS λl hl=>h0 l (rF hg hd hl);grind[aeU,jP]
 grind
def gr(g:GL)(x d:Nat->Rat)(l:eX):Rat:=xH (g.e l.1) (x l.1) l.2*d l.1
structure Ok(n:Nat)(g:GL)(x d:Nat->Rat)(s:Rat):Prop where
 e:∀i,i<n->∀c,c<g.k i->rX (g.e i) (x i+s*d i) c=rX (g.e i) (x i) c+s*d i*xH (g.e i) (x i) c
 d:∀d'∈g.ds,okD d'.1 (gq g x) (gr g x d) s 0 0 d'.2
def ait{x d:Nat->Rat}{l:eX}(hl:l.1<n):aB n (λi=>gs g x i l*d i)=gr g x d l:=by grind[gs,gr,jq]
def avo(hg:IV n g){x:Nat->Rat}(hx:Nn n x){l:eX}(hl:l.1<n)(i:Nat):0<=gs g x i l:=by
 unfold gs;split
 .exact qX (hg.nn _ hl) (hx _ hl) _
 rfl
def UL{W:Rat}{q r:eX->Rat}{s:Rat}:∀(t:List eX) (Q R:Rat),(∀l∈t,l.1<n)->(okD W (iy n q) (iy n r) s Q R t↔okD W q r s Q R t)
 |[],_,_,_=>Iff.rfl
 |l::t,Q,R,h=>by have e:iy n q l=q l:=ab (h l kc);have e2:iy n r l=r l:=ab (h l kc);unfold okD;rw[e,e2,UL t _ _ λu hu=>h u (by simp[hu])]
def aiu(hg:IV n g){x d:Nat->Rat}(hx:Nn n x)(hd:Nn n d){s:Rat}(h0:0<=s)(ho:Ok n g x d s){j:Nat}(hj:j<n):gG n g (aY x d s) j=gG n g x j+s*mv n (gM n g x) d j:=by
 have hq:∀l:eX,l.1<n->l.2<g.k l.1->gq g (aY x d s) l=gq g x l+s*gr g x d l:=λl h1 h2=>by have:=ho.e l.1 h1 l.2 h2;grind[gq,gr,aY]
 have a1:aB n (λi=>aB (g.k i) λc=>if wu g j i c then gq g (aY x d s) (i,c)else 0)=aB n (λi=>aB (g.k i) λc=>if wu g j i c then gq g x (i,c)else 0)+s*aB n λi=>aB (g.k i) (λc=>if wu g j i c then gs g x i (i,c)else 0)*d i:=by rw[<-gB,<-dF];refine aK λi hi=>?_;rw[<-qc,<-gB,<-dF];grind[Go.Proofs.Ins.aK,Go.Proofs.Ins.gs,Go.Proofs.Ins.gr]
 have a2:∀d'∈g.ds,dG g (aY x d s) j d'=dG g x j d'+s*aB n λi=>dM g x j i d'*d i:=λd' hd'=>by
  have hl:=λl hl=>rF hg hd' (l:=l) hl;have hl2:∀l∈d'.2,l.2<g.k l.1:=λl hl=>(hg.fH l (cF.mpr ⟨d',hd',hl⟩)).2;have hok:=ho.d d' hd';have hcq:∀l,0<=iy n (gq g x) l:=λl=>by
   unfold iy;split
   .next h=>exact J5 hg hx h
   .exact aM
  have hcr:∀l,0<=iy n (gr g x d) l:=λl=>by
   unfold iy;split
   .next h=>exact cj (qX (hg.nn _ h) (hx _ h) _) (hd _ h)
   .exact aM
  have hq0:(0:Rat)<d'.1->s*0<=d'.1-0:=λh=>by grind
  have b1:=acg (W:=d'.1) h0 hcr j d'.2 0 0 aM hq0 ((UL d'.2 0 0 hl).mpr hok);have b2:qh d'.1 (λl=>iy n (gq g x) l+s*iy n (gr g x d) l) (0+s*0) d'.2 j=qh d'.1 (gq g (aY x d s)) 0 d'.2 j:=by
   have z:(0:Rat)+s*0=0:=by grind
   rw[z];clear b1 hok hq0;have:∀(t:List eX) (Q:Rat),(∀l∈t,l.1<n/\l.2<g.k l.1)->qh d'.1 (λl=>iy n (gq g x) l+s*iy n (gr g x d) l) Q t j=qh d'.1 (gq g (aY x d s)) Q t j:=by
    intro t;induction t with
    |nil=>intro Q _;rfl
    |cons l t ih=>
     intro Q h
     have h1:=h l kc
     have e:iy n (gq g x) l+s*iy n (gr g x d) l=gq g (aY x d s) l:=by rw[hq l h1.1 h1.2];unfold iy;rw[ab h1.1,ab h1.1]
     unfold qh
     rw[e,ih _ λu hu=>h u (by simp[hu])]
   exact this d'.2 0 λl h=>⟨hl l h,hl2 l h⟩
  rw[b2,Lh j _ _ hl,UK j _ _ _ _ hl]at b1;have z0:nT d'.1 0 0=0:=by unfold nT;split<;>rfl
  rw[z0]at b1;have b3:jh d'.1 (gq g x) (gr g x d) 0 0 0 d'.2 j=aB n λi=>jh d'.1 (gq g x) (gs g x i) 0 0 0 d'.2 j*d i:=by
   have c:=acn (n:=n) (W:=d'.1) (q:=gq g x) d (gs g x) j d'.2 0 (λ_=>0) (λ_=>0);have z:aB n (λi=>0*d i)=0:=bI λi _=>by rw[Rat.zero_mul]
   rw[z]at c;rw[<-c];have:∀(t:List eX) (Q R B:Rat),(∀l∈t,l.1<n)->jh d'.1 (gq g x) (gr g x d) Q R B t j=jh d'.1 (gq g x) (λl=>aB n λi=>gs g x i l*d i) Q R B t j:=by
    intro t;induction t with
    |nil=>intro Q R B _;rfl
    |cons l t ih=>
     intro Q R B h
     unfold jh
     rw[ait (h l kc),ih _ _ _ λu hu=>h u (by simp[hu])]
   exact this d'.2 0 0 0 hl
  have b4:aI d'.2 (gq g (aY x d s))=aI d'.2 (gq g x)+s*aI d'.2 (gr g x d):=by rw[<-xG,<-Dk];exact dV λl h=>hq l (hl l h) (hl2 l h)
  have b5:aI d'.2 (gr g x d)=aB n λi=>aI d'.2 (gs g x i)*d i:=by
   have:aB n (λi=>aI d'.2 (gs g x i)*d i)=aB n λi=>aI d'.2 λl=>gs g x i l*d i:=aK λi _=>by rw[gC,<-xG];exact dV λl _=>gC _ _
   rw[this,D9 d'.2 λl i=>gs g x i l*d i];exact dV λl h=>(ait (hl l h)).symm
  have b6:0<=aI d'.2 (gr g x d):=kH λl h=>cj (qX (hg.nn _ (hl l h)) (hx _ (hl l h)) _) (hd _ (hl l h));have b7:=ach d'.2 0 0 hok (λh=>by grind);rw[gH,gH]at b7;have b8:=amV (W:=d'.1) h0 b6 b7;have b9:aB n (λi=>(aI d'.2 (gs g x i)-nT d'.1 (aI d'.2 (gq g x)) (aI d'.2 (gs g x i)))*d i)=aI d'.2 (gr g x d)-nT d'.1 (aI d'.2 (gq g x)) (aI d'.2 (gr g x d)):=by rw[b5,acj,<-iF];exact aK λi _=>by grind
  unfold dG dM;rw[b1,b3,b4,b8];by_cases e:P8 g d'=(j:Int)
  .simp only[ab e];have:aB n (λi=>(aI d'.2 (gs g x i)-nT d'.1 (aI d'.2 (gq g x)) (aI d'.2 (gs g x i))+jh d'.1 (gq g x) (gs g x i) 0 0 0 d'.2 j)*d i)=aB n (λi=>(aI d'.2 (gs g x i)-nT d'.1 (aI d'.2 (gq g x)) (aI d'.2 (gs g x i)))*d i)+aB n λi=>jh d'.1 (gq g x) (gs g x i) 0 0 0 d'.2 j*d i:=by rw[<-dF];exact aK λi _=>by rw[Rat.add_mul]
   rw[this,b9];grind
  .simp only[ae e];have:aB n (λi=>(0+jh d'.1 (gq g x) (gs g x i) 0 0 0 d'.2 j)*d i)=aB n λi=>jh d'.1 (gq g x) (gs g x i) 0 0 0 d'.2 j*d i:=aK λi _=>by rw[gH]
   rw[this];grind
 have a3:aI g.ds (dG g (aY x d s) j)=aI g.ds (dG g x j)+s*aB n λi=>aI g.ds (dM g x j i)*d i:=by rw[dV a2,Dk,xG];congr 2;rw[<-D9 g.ds λd' i=>dM g x j i d'*d i];refine aK λi _=>?_;rw[gC,<-xG];exact dV λ_ _=>gC _ _
 have a4:mv n (gM n g x) d j=aB n (λi=>aB (g.k i) (λc=>if wu g j i c then gs g x i (i,c)else 0)*d i)+aB n λi=>aI g.ds (dM g x j i)*d i:=by rw[<-dF];exact aK λi _=>by unfold gM;rw[Rat.add_mul]
 grind[gG]
end
def jH(a:ig):List Nat:=(vX a).map Int.toNat
def zD(cs:List C5)(r:Nat):Nat->dJ
 |0=>[]
 |k+1=>zD cs r k++if(ix cs k).r=(r:Int)then [((k:Int),(ix cs k).a.q)]else []
def Kt(cs:List C5)(k:Nat):fP:=(List.range 8).map λr=>zD cs r k
def Lj(s:(Nat->Rat)×dJ)(x:Ai):(Nat->Rat)×dJ:=
 if x.k=-1 then(s.1,s.2++[((-1:Int),x.a.q)])
 else((λi=>if i=x.k.toNat then s.1 i-(if x.b=true then jP (s.1 x.k.toNat) x.a.q else s.1 x.k.toNat)else s.1 i),s.2++[(x.k,if x.b=true then jP (s.1 x.k.toNat) x.a.q else s.1 x.k.toNat)])
def ltS(s:(Nat->Rat)×fP)(t:Ht):(Nat->Rat)×fP:=((t.foldl Lj (s.1,[])).1,s.2++[(t.foldl Lj (s.1,[])).2])
def lsA(cs:List C5)(a:ig):(Nat->Rat)×fP:=a.foldl ltS ((λi:Nat=>(ix cs i).a.q),[])
def vG(ms:List Nat)(f:Nat->Rat):dJ:=ms.map λi:Nat=>((i:Int),f i)
def nK(cs:List C5)(a:ig):List Nat×fP:=(jH a,(lsA cs a).2++[vG (jH a) (lsA cs a).1])
def bY(e:zC):fA:=⟨Kt e.c e.c.length,e.a.map (nK e.c)⟩
structure P9(P:Rat->Prop):Prop where
 min:∀a b,P a->P b->P (jP a b)
 sub:∀a b,P a->P b->P (a-jP a b)
 zero:P 0
def Qa(P:Rat->Prop)(n:Nat)(x:Ai):Prop:=(x.k=-1\/0<=x.k/\x.k<n)/\((x.k=-1\/x.b=true)->P x.a.q)
def zZ(P:Rat->Prop)(n:Nat)(t:dJ):Prop:=∀p∈t,(p.1=-1\/0<=p.1/\p.1<n)/\P p.2
section
variable {P:Rat→Prop} {n:Nat}
def zZ.snoc{t:dJ}(h:zZ P n t){p:Int×Rat}(h1:p.1=-1\/0<=p.1/\p.1<n)(h2:P p.2):zZ P n (t++[p]):=λq hq=>by
 rcases bA.mp hq with hq|hq
 .exact h q hq
 grind
def avp(hP:P9 P){s:(Nat->Rat)×dJ}(h1:∀i,P (s.1 i))(h2:zZ P n s.2){x:Ai}(hx:Qa P n x):(∀i,P ((Lj s x).1 i))/\zZ P n (Lj s x).2:=by
 unfold Lj;by_cases e:x.k=-1
 .rw[ab e];exact⟨h1,h2.snoc (.inl rfl) (hx.2 (.inl e))⟩
 .rw[ae e];dsimp only;have self:P (s.1 x.k.toNat-s.1 x.k.toNat):=by rw[show s.1 x.k.toNat-s.1 x.k.toNat=0 by grind];exact hP.zero
  refine⟨λi=>?_,h2.snoc hx.1 ?_⟩
  .split
   .next e2=>
    rw[e2];split
    .next hb=>exact hP.sub _ _ (h1 _) (hx.2 (.inr hb))
    omega
   grind
  .dsimp only;split
   .next hb=>exact hP.min _ _ (h1 _) (hx.2 (.inr hb))
   grind
def aau(hP:P9 P):∀(t:Ht){s:(Nat->Rat)×dJ},(∀i,P (s.1 i))->zZ P n s.2->(∀x∈t,Qa P n x)->(∀i,P ((t.foldl Lj s).1 i))/\zZ P n (t.foldl Lj s).2
 |[],_,h1,h2,_=>⟨h1,h2⟩
 |x::t,s,h1,h2,h=>by obtain⟨h3,h4⟩:=avp hP h1 h2 (h x kc);exact aau hP t h3 h4 λy hy=>h y (by simp[hy])
def xI(P:Rat->Prop)(n:Nat)(l:fP):Prop:=∀t∈l,zZ P n t
def xI.snoc{l:fP}(h:xI P n l){t:dJ}(ht:zZ P n t):xI P n (l++[t]):=λu hu=>by
 rcases bA.mp hu with hu|hu
 .exact h u hu
 grind
def aav(hP:P9 P):∀(a:ig){s:(Nat->Rat)×fP},(∀i,P (s.1 i))->xI P n s.2->(∀t∈a,∀x∈t,Qa P n x)->(∀i,P ((a.foldl ltS s).1 i))/\xI P n (a.foldl ltS s).2
 |[],_,h1,h2,_=>⟨h1,h2⟩
 |t::a,s,h1,h2,h=>by obtain⟨h3,h4⟩:=aau hP t (s:=(s.1,[])) h1 (λ_ h=>by cases h) (h t kc);exact aav hP a (s:=ltS s t) h3 (h2.snoc h4) λu hu=>h u (by simp[hu])
def aiv(hP:P9 P){cs:List C5}{a:ig}(hc:∀i,P (ix cs i).a.q)(ha:∀t∈a,∀x∈t,Qa P n x):(∀i,P ((lsA cs a).1 i))/\xI P n (lsA cs a).2:=aav hP a hc (λ_ h=>by cases h) ha
def ug{a:ig}(ha:∀t∈a,∀x∈t,x.k=-1\/0<=x.k/\x.k<n):∀c∈vX a,0<=c/\c<n:=λc hc=>by obtain⟨h1,h2⟩:=qM.mp hc;obtain⟨t,ht,hm⟩:=fq.mp h2;obtain⟨x,hx,e⟩:=fq.mp hm;grind
def uG{a:ig}(ha:∀t∈a,∀x∈t,x.k=-1\/0<=x.k/\x.k<n){i:Nat}:i∈jH a↔NK a (i:Int)=true:=by
 unfold jH;rw[cT];constructor
 .rintro⟨c,hc,rfl⟩;have h1:=ug ha c hc;rw[eV h1.1];exact(qM.mp hc).2
 .intro h;exact⟨i,qM.mpr ⟨jb,h⟩,by simp⟩
def FU{a:ig}(ha:∀t∈a,∀x∈t,x.k=-1\/0<=x.k/\x.k<n):(jH a).Nodup:=by unfold jH;rw[ka,List.pairwise_map];refine List.Pairwise.imp_of_mem (λ{x y} hx hy h=>?_) (abO a);have:=ug ha x hx;omega
def acE(hP:P9 P){cs:List C5}{a:ig}(hc:∀i,P (ix cs i).a.q)(ha:∀t∈a,∀x∈t,Qa P n x):xI P n (nK cs a).2:=by obtain⟨h1,h2⟩:=aiv hP hc ha;refine h2.snoc λp hp=>?_;unfold vG at hp;obtain⟨i,hi,rfl⟩:=cT.mp hp;have:=(uG λt ht x hx=>(ha t ht x hx).1).mp hi;have h3:=ug (a:=a) (λt ht x hx=>(ha t ht x hx).1) i (qM.mpr ⟨jb,this⟩);grind
def OB{cs:List C5}(hc:∀i,i<cs.length->P (ix cs i).a.q)(r:Nat):∀k,k<=cs.length->∀p∈zD cs r k,(0<=p.1/\p.1<cs.length)/\P p.2
 |0,_,p,hp=>by cases hp
 |k+1,hk,p,hp=>by
  unfold zD at hp;rcases bA.mp hp with hp|hp
  .exact OB hc r k jb p hp
  grind
end
end Go.Proofs.Ins
namespace Go.Proofs.Xe
open Go.RowKit Go.Proofs.Ins
def dX(D:Nat)(q:Rat):Prop:=∃a:Int,q=(a:Rat)/(D:Rat)
theorem iG{D:Nat}(h:0<D):(D:Rat)≠0:=λe=>by simp_all
section
variable {A B D:Nat} {p q x s:Rat}
theorem dX.zero(D:Nat):dX D 0:=⟨0,by grind⟩
theorem dX.add(h:dX D p)(h':dX D q):dX D (p+q):=by obtain⟨a,rfl⟩:=h;obtain⟨b,rfl⟩:=h';exact⟨a+b,by grind⟩
def dX.neg(h:dX D p):dX D (-p):=by obtain⟨a,rfl⟩:=h;exact⟨-a,by grind⟩
def dX.sub(h:dX D p)(h':dX D q):dX D (p-q):=by rw[kh];exact h.add h'.neg
def dX.up(h:dX A p){k:Nat}(hk:0<k):dX (A*k) p:=by
 obtain⟨a,rfl⟩:=h;refine⟨a*k,?_⟩;have h1:=iG hk;have e2:((a*(k:Int):Int):Rat)=(a:Rat)*(k:Rat):=by rw[di];rfl
 grind
def dX.dvd(h:dX A p)(hd:A∣B)(hB:0<B):dX B p:=by obtain⟨k,rfl⟩:=hd;exact h.up (fW λe=>by grind)
theorem dX.sum{α:Type}{f:α->Rat}:∀{l:List α},(∀a∈l,dX D (f a))->dX D (aI l f)
 |[],_=>dX.zero D
 |a::l,h=>(h a kc).add (dX.sum λb hb=>h b (by simp[hb]))
def nuA(A:Nat)(s:Rat):Nat:=(s*A).num.natAbs
def UM(hA:0<A)(hs:dX A s)(h0:0<s):s=(nuA A s:Rat)/(A:Rat)/\0<nuA A s:=by
 obtain⟨u,rfl⟩:=hs;have hA:=iG hA;have e:(u:Rat)/(A:Rat)*(A:Rat)=(u:Rat):=by grind
 unfold nuA;rw[e,Rat.num_intCast];have hu:0<u:=by
  have h1:(0:Rat)<=(A:Rat):=by grind
  have h2:=Rat.mul_pos h0 (show(0:Rat)<(A:Rat) by grind);rw[e]at h2;exact Rat.intCast_pos.mp h2
 have e2:((u.natAbs:Nat):Rat)=(u:Rat):=by
  have:((u.natAbs:Int):Rat)=(u:Rat):=by grind
  exact this
 grind
def dX.share(hA:0<A)(hB:0<B)(hp:dX A p)(hx:dX B x)(hs:dX A s)(h0:0<s):dX (B*nuA A s) (p*(x/s)):=by obtain⟨e,hn⟩:=UM hA hs h0;obtain⟨c,rfl⟩:=hp;obtain⟨z,rfl⟩:=hx;generalize nuA A s=n at*;refine⟨c*z,?_⟩;grind
def Zk.of(hD:0<D)(h:dX D q)(h1:0<=q)(h2:q<=((256^uK:Nat):Rat)):Zk D 1 q:=by
 obtain⟨a,rfl⟩:=h;refine⟨a,rfl,?_⟩;have hD':=iG hD;have h3:(0:Rat)<(D:Rat):=by grind
 have e:(a:Rat)/(D:Rat)*(D:Rat)=(a:Rat):=by grind
 have h4:=bh h2 (eO h3);have h5:=cj h1 (eO h3);rw[e]at h4 h5;rw[<-fw]at h4;have h4:((a:Int):Rat)<=(((256^uK*D:Nat):Int):Rat):=h4;have h4:=gx.mp h4;have h5:=Rat.intCast_nonneg.mp h5;grind
end
def wz(A:Nat)(l:fP)(m:Rat):Nat:=if dP l m<l.length then nuA A (aT (ix l (dP l m)))else 1
def Ku(A:Nat)(l:fP):Prop:=∀t∈l,∀p∈t,dX A p.2/\0<=p.2
section
variable {A B:Nat} {l:fP} {m:Rat}
def Dp{t:dJ}(h:∀p∈t,dX A p.2/\0<=p.2):dX A (aT t):=by
 induction t with
 |nil=>exact dX.zero A
 |cons p t ih=>exact(h p kc).1.add (ih λq hq=>h q (by simp[hq]))
def aaw{t:dJ}(h:∀p∈t,dX A p.2/\0<=p.2)(c:Int):dX A (dY t c):=by
 induction t with
 |nil=>exact dX.zero A
 |cons p t ih=>
  refine dX.add ?_ (ih λq hq=>h q (by simp[hq]))
  grind[dX.zero]
def Ku.nn(h:Ku A l):Jm l:=λt ht p hp=>(h t ht p hp).2
def aiw(h:Ku A l)(k:Nat):dX A (BA l k):=by
 unfold BA;have:∀l:fP,Ku A l->dX A (jr l):=λl=>by
  induction l with
  |nil=>intro _;exact dX.zero A
  |cons t l ih=>intro h;exact(Dp (h t kc)).add (ih λu hu=>h u (by simp[hu]))
 exact this _ λt ht=>h t (eQ ht)
def arM(h:Ku A l)(c:Int):dX A (iU l c):=by
 induction l with
 |nil=>exact dX.zero A
 |cons t l ih=>exact(aaw (h t kc) c).add (ih λu hu=>h u (by simp[hu]))
def Aa(hm:0<=m)(hf:dP l m<l.length):0<aT (ix l (dP l m)):=by have:=UG l m hm;grind
def rH(hA:0<A)(h:Ku A l)(hm:0<=m):0<wz A l m:=by
 unfold wz;split
 .next hf=>exact(UM hA (Dp (h _ (gy hf))) (Aa hm hf)).2
 .omega
def aax(hA:0<A)(hB:0<B)(hd:A∣B)(h:Ku A l)(hm:dX B m):dX B (jB l m):=by rw[Ot];exact hm.sub ((aiw h _).dvd hd hB)
def aix(hA:0<A)(h:Ku A l)(h0:0<=m){R:Nat}(hR:0<R){x:Rat}(hx:dX R x)(hf:dP l m<l.length){q:Rat}(hq:dX A q):dX (R*wz A l m) (q*(x/aT (ix l (dP l m)))):=by unfold wz;rw[ab hf];exact dX.share hA hR hq hx (Dp (h _ (gy hf))) (Aa h0 hf)
def aoY(hA:0<A)(hB:0<B)(hd:A∣B)(h:Ku A l)(hm:dX B m)(h0:0<=m)(c:Int):dX (B*wz A l m) (fZ l m c):=by
 have hc:=rH hA h h0;rw[Jt];refine dX.add ((arM (λt ht=>h t (eQ ht)) c).dvd (bL hd (aR _ _)) (cw hB hc)) ?_;split
 .next hf=>exact aix hA h h0 hB (aax hA hB hd h hm) hf (aaw (h _ (gy hf)) c)
 .exact dX.zero _
def aoZ(hA:0<A)(h:Ku A l)(h0:0<=m){R:Nat}(hR:0<R){x:Rat}(hx:dX R x)(c:Int):dX (R*wz A l m) (jO l m x c):=by
 rw[Ef];split
 .next hf=>exact aix hA h h0 hR hx hf (aaw (h _ (gy hf)) c)
 .exact dX.zero _
end
def aeV(A:Nat)(e:fA)(x:Rat):List (List Nat×fP)->Nat
 |[]=>1
 |p::l=>wz A p.2 (kD e x p)*aeV A e x l
def BD(A:Nat)(e:fA)(x:Rat):Nat:=wz A e.rk x*aeV A e x e.ps
structure ED(A:Nat)(U:Rat)(n:Nat)(e:fA):Prop where
 rk:xI (λq=>dX A q/\0<=q/\q<=U) n e.rk
 ps:∀p∈e.ps,xI (λq=>dX A q/\0<=q/\q<=U) n p.2
section
variable {A B n:Nat} {U m:Rat} {e:fA}
def _root_.Go.Proofs.Ins.xI.D{l:fP}(h:xI (λq=>dX A q/\0<=q/\q<=U) n l):Ku A l:=λt ht p hp=>⟨(h t ht p hp).2.1,(h t ht p hp).2.2.1⟩
def ED.nn(h:ED A U n e):zU e:=⟨h.rk.D.nn,λp hp=>(h.ps p hp).D.nn⟩
def aiy(hA:0<A)(hB:0<B)(hd:A∣B)(h:ED A U n e)(hm:dX B m)(h0:0<=m)(c:Nat):dX (B*wz A e.rk m) (xP e m c):=aoY hA hB hd h.rk.D hm h0 _
def ao0(hA:0<A)(h:ED A U n e)(h0:0<=m)(c:Nat):dX (wz A e.rk m) (rts e m c):=by have:=aoZ (R:=1) hA h.rk.D h0 jj (x:=1) ⟨1,by grind⟩ c;rwa[Nat.one_mul]at this
def XP(hA:0<A)(hB:0<B)(hd:A∣B)(h:ED A U n e)(hm:dX B m)(h0:0<=m)(p:List Nat×fP):dX (B*wz A e.rk m) (kD e m p):=dX.sum λc _=>aiy hA hB hd h hm h0 c
def acF(hA:0<A)(h:ED A U n e)(h0:0<=m)(p:List Nat×fP):dX (wz A e.rk m) (rW e m p):=dX.sum λc _=>ao0 hA h h0 c
def Dt(A:Nat)(e:fA)(x:Rat):∀{l:List (List Nat×fP)}{p:List Nat×fP},p∈l->wz A p.2 (kD e x p)∣aeV A e x l
 |q::l,p,h=>by
  rcases bz.mp h with rfl|h
  .exact aR _ _
  .exact bL (Dt A e x h) (ic _ _)
def XQ(hA:0<A)(h:ED A U n e)(h0:0<=m):∀{l:List (List Nat×fP)},(∀p∈l,p∈e.ps)->0<aeV A e m l
 |[],_=>Nat.zero_lt_one
 |p::l,hl=>cw (rH hA (h.ps p (hl p kc)).D (l7 h.nn h0 p)) (XQ hA h h0 λq hq=>hl q (by simp[hq]))
def Iq(hA:0<A)(h:ED A U n e)(h0:0<=m):0<BD A e m:=cw (rH hA h.rk.D h0) (XQ hA h h0 λ_ h=>h)
def aiz(hA:0<A)(hB:0<B)(hd:A∣B)(h:ED A U n e)(hm:dX B m)(h0:0<=m)(c:Nat):dX (B*BD A e m) (rX e m c):=by
 have hp:=cw hB (Iq hA h h0);have hp1:=cw hB (rH hA h.rk.D h0);unfold rX;refine dX.add ?_ (dX.sum λp hp'=>?_)
 .split
  .exact dX.zero _
  .exact(aiy hA hB hd h hm h0 c).dvd (cH _ (aR _ _)) hp
 .refine(aoY hA hp1 (bL hd (aR _ _)) (h.ps p hp').D (XP hA hB hd h hm h0 p) (l7 h.nn h0 p) c).dvd ?_ hp;rw[gn];exact cH _ (cH _ (Dt A e m hp'))
def aiA(hA:0<A)(h:ED A U n e)(h0:0<=m)(c:Nat):dX (BD A e m) (xH e m c):=by
 have hp:=Iq hA h h0;unfold xH;refine dX.add ?_ (dX.sum λp hp'=>?_)
 .split
  .exact dX.zero _
  .exact(ao0 hA h h0 c).dvd (aR _ _) hp
 .exact(aoZ hA (h.ps p hp').D (l7 h.nn h0 p) (rH hA h.rk.D h0) (acF hA h h0 p) c).dvd (cH _ (Dt A e m hp')) hp
end
end Go.Proofs.Xe
namespace Go.Proofs.Ins
def uM(l:Lg):eX:=(l.e.toNat,l.k.toNat)
def bC(g:iw):GL:=⟨λi=>bY (ix g.e i),λi=>(ix g.e i).c.length,λi c=>(ix (ix g.e i).c c).h,g.d.map λd=>(d.w.q,d.l.map uM)⟩
theorem acG{q:Rat}(h:¬sg q<0):0<=q:=by grind[sg]
def am3:P9 (λq=>0<=q) where
 min:=λa b ha hb=>by grind[jP]
 sub:=λa b ha hb=>by grind[jP]
 zero:=aM
structure EZ(n:Nat)(i:Nat)(e:zC):Prop where
 nc:e.c.length<=24
 na:e.a.length<=12
 m:0<=e.m.q
 c:∀k,k<e.c.length->0<=(ix e.c k).r/\(ix e.c k).r<=7/\0<=(ix e.c k).a.q/\((ix e.c k).h=-1\/0<=(ix e.c k).h/\(ix e.c k).h<n/\(ix e.c k).h≠i)
 a:∀k,k<e.a.length->(ix e.a k).length<=24/\(∀t,t<(ix e.a k).length->(ix (ix e.a k) t).length<=24)/\∀t∈ix e.a k,∀x∈t,Qa (λq=>0<=q) e.c.length x/\(x.k≠-1->zK e.a k x.k=false)
def avq{e:zC}{n i:Nat}(h:Hw e=0)(hh:∀k,k<e.c.length->¬((n:Int)<=(ix e.c k).h\/(ix e.c k).h=(i:Int))):EZ n i e:=by
 unfold Hw at h;split at h
 .cases h
 next h0=>
 split at h
 .cases h
 next h1=>
 split at h
 .omega
 next h2=>
 have h2:FN (λi=>Ue (ix e.c i)) e.c.length=0:=br h2;refine⟨jb,jb,acG h1,λk hk=>?_,λk hk=>?_⟩
 .grind[fU,Ue,acG]
 .have ha:=fU h k hk;unfold WX at ha;split at ha
  .cases ha
  next hl=>
  have hl:=CJ.mp (by simpa using hl);refine⟨hl.1,hl.2,λt ht x hx=>?_⟩;obtain⟨j,hj,rfl⟩:=aL ht;obtain⟨p,hp,rfl⟩:=aL hx;have hT:=fU ha j hj;unfold arl at hT;rw[fD hj]at hT;have hP:=fU hT p hp;rw[fD hp]at hP;generalize (ix e.a k)[j][p]=x at*;unfold ZW at hP;split at hP
  .cases hP
  next c1=>
  split at hP
  .cases hP
  next c2=>
  split at hP
  .cases hP
  next c3=>
  split at hP
  .cases hP
  next c4=>
  refine⟨⟨jb,λhq=>?_⟩,λhn=>by grind⟩;grind[acG]
structure GZ(g:iw):Prop where
 ne:g.e.length<=8
 nd:g.d.length<=16
 e:∀i,i<g.e.length->EZ g.e.length i (ix g.e i)
 l:∀d,d<g.d.length->(ix g.d d).l.length<=8/\0<=(ix g.d d).w.q/\∀k,k<(ix g.d d).l.length->∃e j:Nat,ix (ix g.d d).l k=⟨(e:Int),(j:Int)⟩/\e<g.e.length/\j<(ix g.e e).c.length/\Hz (mY g.d d k) (ix (ix g.d d).l k)=false/\holdL g.e (ix (ix g.d d).l k)=holdL g.e (ix (ix g.d d).l 0)
def Ir{g:iw}(h:NP g=0):GZ g:=by
 unfold NP at h;split at h
 .cases h
 next h0=>
 split at h
 .omega
 next h1=>
 split at h
 .omega
 next h2=>
 have h1:FN (λi=>Hw (ix g.e i)) g.e.length=0:=br h1;have h2:FN (λi=>FN (WY g i) (ix g.e i).c.length) g.e.length=0:=br h2;refine⟨jb,jb,λi hi=>avq (fU h1 i hi) λk hk hx=>?_,λd hd=>?_⟩
 .grind[fU,WY]
 .have hD:=fU h d hd;unfold NM at hD;split at hD
  .cases hD
  next d0=>
  split at hD
  .cases hD
  next d1=>
  refine⟨jb,acG d1,λk hk=>?_⟩;have hL:=fU hD k hk;unfold ZX at hL;dsimp only at hL;split at hL
  .cases hL
  next hr=>
  split at hL
  .cases hL
  next hm=>
  split at hL
  .cases hL
  next hh=>
  have hm:Hz (mY g.d d k) (ix (ix g.d d).l k)=false:=by simpa using hm
  have hh:holdL g.e (ix (ix g.d d).l k)=holdL g.e (ix (ix g.d d).l 0):=br hh;revert hm hh;generalize hx:ix (ix g.d d).l k=x at*;obtain⟨e,j⟩:=x;dsimp only at hr;intro hm hh;refine⟨e.toNat,j.toNat,?_,jb,jb,hm,hh⟩;rw[eV jb,eV jb]
def OC{α β:Type}[Inhabited α](f:α->List β):∀l:List α,(∀k,k<l.length->(f (ix l k)).Nodup/\∀j,j<k->∀x,x∈f (ix l k)->x∉f (ix l j))->(l.flatMap f).Nodup:=by
 intro l;have key:∀k,k<=l.length->(∀k,k<l.length->(f (ix l k)).Nodup/\∀j,j<k->∀x,x∈f (ix l k)->x∉f (ix l j))->((l.take k).flatMap f).Nodup:=by
  intro k;induction k with
  |zero=>simp
  |succ k ih=>
   intro hk h
   rw[bF jb,cV,eZ]
   have hs:[ix l k].flatMap f=f (ix l k):=by simp
   rw[hs]
   refine⟨ih jb h,(h k jb).1,λa ha b hb e=>?_⟩
   subst e
   obtain⟨y,hy,hay⟩:=cF.mp ha
   obtain⟨j,hj,rfl⟩:=aL hy
   grind[fD]
 grind[List.take_length]
def XR{α β:Type}[Inhabited α][Inhabited β](f:α->β){l:List α}{i:Nat}(h:i<l.length):ix (l.map f) i=f (ix l i):=by grind[fD]
section
variable {n i:Nat} {e:zC}
theorem EZ.prt(h:EZ n i e){k:Nat}(hk:k<e.a.length):∀t∈ix e.a k,∀x∈t,x.k=-1\/0<=x.k/\x.k<e.c.length:=λt ht x hx=>(((h.a k hk).2.2 t ht x hx).1).1
def aiB{α:Type}[Inhabited α]{l:List α}{k:Nat}(h:l.length<=k):ix l k=default:=by grind[ix]
def R3.avr:(default:R3).q=0:=by rfl
def EZ.amt(h:EZ n i e)(k:Nat):0<=(ix e.c k).a.q:=by
 by_cases hk:k<e.c.length
 .exact(h.c k hk).2.2.1
 .rw[aiB jb];rfl
def Ll{cs:List C5}{k:Nat}{t:dJ}:t∈Kt cs k↔∃r,r<8/\t=zD cs r k:=by grind[Kt]
def yK(h:EZ n i e):zU (bY e)/\InE e.c.length (bY e):=by
 have hA:∀k,k<e.a.length->xI (λq=>0<=q) e.c.length (nK e.c (ix e.a k)).2:=λk hk=>acE am3 h.amt λt ht x hx=>((h.a k hk).2.2 t ht x hx).1;refine⟨⟨λt ht p hp=>?_,λp hp t ht q hq=>?_⟩,⟨λt ht p hp=>?_,λp hp t ht q hq=>?_,?_,λi hi=>?_⟩⟩
 .obtain⟨r,-,rfl⟩:=Ll.mp ht;exact(OB (P:=λq=>0<=q) (λi _=>h.amt i) r _ jp p hp).2
 .obtain⟨a,ha,rfl⟩:=cT.mp hp;obtain⟨k,hk,rfl⟩:=aL ha;rw[<-fD hk]at ht;exact(hA k hk t ht q hq).2
 .obtain⟨r,-,rfl⟩:=Ll.mp ht;exact(OB (P:=λq=>0<=q) (λi _=>h.amt i) r _ jp p hp).1
 .obtain⟨a,ha,rfl⟩:=cT.mp hp;obtain⟨k,hk,rfl⟩:=aL ha;rw[<-fD hk]at ht;exact(hA k hk t ht q hq).1
 .show((e.a.map (nK e.c)).flatMap (·.1)).Nodup;rw[jn];refine OC (λa=>(nK e.c a).1) e.a λk hk=>⟨FU (h.prt hk),λj hj x hx hx2=>?_⟩
  have h1:=(uG (h.prt hk)).mp hx;have h2:=(uG (h.prt (by omega:j<e.a.length))).mp hx2;obtain⟨t,ht,hm⟩:=fq.mp h1;obtain⟨y,hy,ey⟩:=fq.mp hm;have ey:y.k=(x:Int):=by grind
  have:=((h.a k hk).2.2 t ht y hy).2 jb;rw[ey]at this;unfold zK at this;rw[List.any_eq_false]at this;refine this (ix e.a j) ?_ h2;rw[<-Ua (l:=e.a) hj];grind[kN]
 .obtain⟨p,hp,hi⟩:=cF.mp hi;obtain⟨a,ha,rfl⟩:=cT.mp hp;obtain⟨k,hk,rfl⟩:=aL ha;rw[<-fD hk]at hi;have h1:=(uG (h.prt hk)).mp hi;have:=ug (h.prt hk) i (qM.mpr ⟨jb,h1⟩);omega
end
def arN{g:iw}(h:GZ g):IV g.e.length (bC g):=by
 refine⟨λi hi=>(yK (h.e i hi)).1,λi hi=>(yK (h.e i hi)).2,λi c hi hc=>?_,λl hl=>?_,?_,λd hd=>?_⟩
 .have:=((h.e i hi).c c hc).2.2.2;show(ix (ix g.e i).c c).h=-1\/0<=(ix (ix g.e i).c c).h/\(ix (ix g.e i).c c).h<(g.e.length:Int);omega
 .obtain⟨d,hd,hl⟩:=cF.mp hl;obtain⟨d',hd',rfl⟩:=cT.mp hd;obtain⟨j,hj,rfl⟩:=aL hd';obtain⟨x,hx,rfl⟩:=cT.mp hl;rw[<-fD hj]at hx;obtain⟨k,hk,rfl⟩:=aL hx;obtain⟨a,b,e1,h1,h2,-⟩:=(h.l j hj).2.2 k hk;rw[<-fD hk,e1];exact⟨h1,h2⟩
 .show((g.d.map λd=>(d.w.q,d.l.map uM)).flatMap (·.2)).Nodup;rw[jn];have key:∀d,d<g.d.length->∀k,k<(ix g.d d).l.length->∀y∈mY g.d d k,(0<=y.e/\0<=y.k)->uM y≠uM (ix (ix g.d d).l k):=λd hd k hk y hy hn e=>by obtain⟨a,b,e1,h1,h2,h3,-⟩:=(h.l d hd).2.2 k hk;grind[Go.Proofs.Ins.Hz,Go.Proofs.Ins.uM]
  have nn:∀d,d<g.d.length->∀y∈(ix g.d d).l,0<=y.e/\0<=y.k:=λd hd y hy=>by obtain⟨k,hk,rfl⟩:=aL hy;obtain⟨a,b,e1,-⟩:=(h.l d hd).2.2 k hk;grind[fD]
  refine OC (λd:xO=>d.l.map uM) g.d λd hd=>⟨?_,λj hj x hx hx2=>?_⟩
  .have:(List.range (ix g.d d).l.length).Pairwise (· < ·):=List.pairwise_lt_range;rw[ka,List.pairwise_map,ke];intro a b ha hb hab;have:=key d hd b hb (ix (ix g.d d).l a) (List.mem_append_right _ ?_) ?_
   .grind[fD]
   .rw[<-Ua (l:=(ix g.d d).l) hab];grind[kN]
   grind[kN]
  .obtain⟨y,hy,rfl⟩:=cT.mp hx;obtain⟨z,hz,e⟩:=cT.mp hx2;obtain⟨k,hk,rfl⟩:=aL hy;rw[<-fD hk]at e;refine key d hd k hk z (ja _ (cF.mpr ⟨ix g.d j,?_,hz⟩)) (nn j jb z hz) e;rw[<-Ua (l:=g.d) hj];grind[kN]
 .obtain⟨d',hd',rfl⟩:=cT.mp hd;obtain⟨j,hj,rfl⟩:=aL hd';rw[<-fD hj];exact(h.l j hj).2.1
end Go.Proofs.Ins
