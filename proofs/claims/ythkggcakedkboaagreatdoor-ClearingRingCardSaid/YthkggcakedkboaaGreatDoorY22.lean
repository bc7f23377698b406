import Derived.Test.YthkggcakedkboaaGreatDoorY21
set_option linter.all false
namespace Go.Proofs.Xe
open Go.RowKit Go.Proofs.Ins
def nU{r:R3}{k:Nat}(h:r.fits k)(hk:k<=50000000):r.s.size+r.d.size<=130000000:=by have:=h.1;have:=h.2;omega
def fE.kn{p:Nat->Prop}{h:Tr Bk}{v:B}{l:iK}(hl:fE p h v l):v.kn=true:=hl.choose_spec.1.kn
def mJ.at{p:Nat->Prop}{h:Tr Bk}{v:B}{l:List iK}(hl:mJ p h v l){j:Nat}(hj:j<l.length):∃b o c,v=.sl b o l.length c/\∃T:B,ld h b (o+j*1) 1 true=some (.agg [T])/\fE p h T (ix l j):=by obtain⟨T,h1,h2⟩:=hl;obtain⟨b,o,c,e,-,hld⟩:=h1.pos jb;grind
def fE.at{p:Nat->Prop}{h:Tr Bk}{v:B}{l:iK}(hl:fE p h v l){j:Nat}(hj:j<l.length):∃b o c,v=.sl b o l.length c/\∃T:B,ld h b (o+j*1) 1 false=some (.c T)/\Bg p h T (ix l j):=by obtain⟨T,h1,h2⟩:=hl;obtain⟨b,o,c,e,-,hld⟩:=h1.pos jb;exact⟨b,o,c,e,T j,(zG (hld j hj)).1,h2 j hj⟩
def mJ.len{p:Nat->Prop}{h:Tr Bk}{v:B}{l:List iK}(hl:mJ p h v l):lenV (.c v)=some (.c (.int .i64 (.ofNat l.length))):=hl.choose_spec.1.len
def fE.len{p:Nat->Prop}{h:Tr Bk}{v:B}{l:iK}(hl:fE p h v l):lenV (.c v)=some (.c (.int .i64 (.ofNat l.length))):=hl.choose_spec.1.len
theorem fE.fr{σ σ':St}(hW:WF σ)(hf:Fr σ σ'){p:Nat->Prop}{v:B}{l:iK}(hl:fE p σ.h v l):fE (Lt σ.aj) σ'.h v l:=by obtain⟨T,h1,h2⟩:=hl;exact⟨T,h1.fr hW hf,λi hi=>(h2 i hi).fr hW hf⟩
structure NF(Q:(Nat->Prop)->Tr Bk->Nat->Prop)(h:Tr Bk)(b n:Nat)(G:Nat->List B)(e ty lo hi:Nat):Prop where
 g:wJ n h b=gF n G e ty
 L:LG G e
 l1:lo<=b
 l2:n=0\/b<hi
 q:∀j,j<n->Q (λx=>lo<=x/\x<b) h j
def NoQ(_:Nat->Prop)(_:Tr Bk)(_:Nat):Prop:=True
def IX(j:Nat):QK NoQ j:=λ_ _ _ _ h _ _=>h
section
variable {Q Q' : (Nat→Prop)→Tr Bk→Nat→Prop} {h h' : Tr Bk} {b n:Nat} {G G' : Nat→List B} {e ty lo hi:Nat}
theorem NF.nil(hL:LG G e):NF Q h lo 0 G e ty lo hi:=⟨rfl,hL,jp,.inl rfl,λ_ h=>jb⟩
def NF.own(ho:NF Q h b n G e ty lo hi):yD h (aQ n b) n G e ty lo hi:=by
 obtain⟨g,L,h1,h2,-⟩:=ho;cases n with
 |zero=>exact .inl ⟨rfl,rfl⟩
 |succ n=>exact .inr ⟨jb,b,rfl,g,h1,jb⟩
def NF.hlp(ho:NF Q h b n G e ty lo hi)(he:0<e)(hk:∀j,j<n->(G j).all B.kn=true){p:Nat->Prop}(hp:∀b,lo<=b->b<hi->p b):aZ p h e (aQ n b) n G:=yD.hlp ho.own ho.L he hk hp
def NF.mono(ho:NF Q h b n G e ty lo hi)(hQ:∀j,j<n->QK Q j)(hh:∀b,lo<=b->b<hi->h' b=h b){hi':Nat}(h2:hi<=hi'):NF Q h' b n G e ty lo hi':=by have h3:=ho.l1;have h4:=ho.l2;refine⟨?_,ho.L,ho.l1,jb,λj hj=>hQ j hj _ _ _ _ (ho.q j hj) (λx hx=>hh x hx.1 jb) λx hx=>hx⟩;rw[uH,ho.g];grind
def NF.el(ho:NF Q h b n G e ty lo hi)(hQ:∀j,j<n->QK Q j){j:Nat}(hj:j<n):Q (λx=>lo<=x/\x<hi) h j:=by have h4:=ho.l2;exact hQ j hj _ _ _ _ (ho.q j hj) (λ_ _=>rfl) λx hx=>⟨hx.1,jb⟩
def NF.push(ho:NF Q h b n G e ty lo hi)(hQ:∀j,j<=n->QK Q' j)(hQQ:∀j,j<n->∀p h,Q p h j->Q' p h j){hi1 nx n':Nat}{h1:Tr Bk}(hx:Q' (λb=>hi<=b/\b<hi1) h1 n)(hh:∀b,lo<=b->b<hi->h1 b=h b)(h2:hi<=hi1)(h3:hi1<=nx)(h4:nx<n')(h5:lo<=hi)
  {x:List B}(hb:h' nx=some ⟨dF n G++x,some (e,ty)⟩) (hgn:x=G' n) (hk:∀c,lo<=c->c<hi1->n=0\/c≠b->h' c=h1 c) (hg:∀i,i<n->G' i=G i) (hL:LG G' e):NF Q' h' nx (n+1) G' e ty lo n':=by
 obtain⟨g,-,l1,l2,q⟩:=ho
 refine⟨?_,hL,jb,jb,λj hj=>?_⟩
 .show h' nx=some _
  grind[Go.Proofs.Xe.vM,Go.Proofs.Xe.dO,Go.Proofs.Xe.kJ]
 .by_cases e:j=n
  .subst e
   exact hQ j jb _ _ _ _ hx (λx hx=>hk x jb hx.2 jb) λx hx=>⟨jb,jb⟩
  .exact hQ j jb _ _ _ _ (hQQ j jb _ _ (q j jb)) (λx hx=>by grind) λx hx=>⟨hx.1,jb⟩
end
def xw(p:Nat->Prop)(h:Tr Bk)(v:B)(l:fP):Prop:=
 ∃G:Nat->B,aZ p h 4 v l.length (λi=>jA (G i) (aU (ix l i)))/\aj0 v/\∀i,i<l.length->aZ p h 4 (G i) (ix l i).length λj=>yB (ix (ix l i) j)
def YI(p:Nat->Prop)(h:Tr Bk)(v:B)(ms:List Nat):Prop:=aZ p h 1 v ms.length λi=>[Oh ms i]
structure xA(p:Nat->Prop)(h:Tr Bk)(rv pv:B)(e:dV):Prop where
 rk:xw p h rv e.rk
 ps:∃Gm Gl:Nat->B,aZ p h 2 pv e.ps.length (λi=>[Gm i,Gl i])/\∀i,i<e.ps.length->YI p h (Gm i) (ix e.ps i).1/\xw p h (Gl i) (ix e.ps i).2
section
variable {p q:Nat→Prop} {h h' : Tr Bk} {v rv pv:B} {l:fP} {ms:List Nat} {e:dV}
def xw.lad(hl:xw p h v l):F7 h v l:=by obtain⟨G,h1,h2,h3⟩:=hl;exact⟨G,h1.hl,h2,λi hi=>(h3 i hi).hl⟩
def xw.keep(hl:xw p h v l)(hk:∀b,p b->h' b=h b)(hp:∀b,p b->q b):xw q h' v l:=by obtain⟨G,h1,h2,h3⟩:=hl;exact⟨G,h1.keep hk hp,h2,λi hi=>(h3 i hi).keep hk hp⟩
def xw.kn(hl:xw p h v l):v.kn=true:=hl.choose_spec.1.kn
def YI.hc(hl:YI p h v ms):HC h v ms.length (Oh ms):=by
 by_cases h0:0<ms.length
 .obtain⟨b,o,c,e,hld⟩:=HL.one (aZ.hl hl) h0;exact .inr ⟨b,o,c,e,hld⟩
 .rcases aZ.hl hl with h1|⟨b,o,c,e,-⟩
  .exact .inl h1
  .exact .inr ⟨b,o,c,e,λi hi=>jb⟩
def xA.lay(hl:xA p h rv pv e):Ie h rv pv e:=by obtain⟨h1,Gm,Gl,h2,h3⟩:=hl;exact⟨h1.lad,Gm,Gl,h2.hl,λi hi=>⟨(h3 i hi).1.hc,(h3 i hi).2.lad⟩⟩
def xA.keep(hl:xA p h rv pv e)(hk:∀b,p b->h' b=h b)(hp:∀b,p b->q b):xA q h' rv pv e:=by obtain⟨h1,Gm,Gl,h2,h3⟩:=hl;exact⟨h1.keep hk hp,Gm,Gl,h2.keep hk hp,λi hi=>⟨aZ.keep (h3 i hi).1 hk hp,(h3 i hi).2.keep hk hp⟩⟩
def xA.Ua(hl:xA p h rv pv e):pv.kn=true:=by obtain⟨-,Gm,Gl,h2,-⟩:=hl;exact h2.kn
end
def MR(h:Tr Bk)(bs:Nat)(t:dJ):Prop:=wJ t.length h bs=gF t.length (λj=>yB (ix t j)) 4 203
def MR.hlp{p:Nat->Prop}{h:Tr Bk}{bs:Nat}{t:dJ}(ho:MR h bs t)(hp:t.length=0\/p bs):aZ p h 4 (aQ t.length bs) t.length λj=>yB (ix t j):=by
 unfold MR at ho;generalize t.length=n at*;cases n with
 |zero=>exact .inl ⟨rfl,rfl⟩
 |succ n=>exact bf _ ho rfl (hp.resolve_left jb) (λ_=>rfl) jj λ_ _=>rfl
def PI(t:dJ)(p:Int×Rat):aU (t++[p])=aU t+p.2:=by
 induction t with
 |nil=>show p.2+0=0+p.2;grind
 |cons q t ih=>grind[aU]
structure kD(h:Tr Bk)(n:Nat)(k:Nat->Nat)(C:Nat->Nat->List B)(bs:Nat->Nat)(lo hi:Nat):Prop where
 r:∀i,i<n->h (bs i)=some ⟨dF (k i) (C i),none⟩/\lo<=bs i/\bs i<hi
 inj:∀i j,i<n->j<n->bs i=bs j->i=j
def wL(k bs:Nat->Nat)(i:Nat):B:=.sl (bs i) 0 (k i) (.ex (k i))
section
variable {h h' : Tr Bk} {n lo hi:Nat} {k bs:Nat→Nat} {C:Nat→Nat→List B}
theorem kD.nil(h:Tr Bk)(k:Nat->Nat)(C:Nat->Nat->List B)(bs:Nat->Nat)(lo hi:Nat):kD h 0 k C bs lo hi:=⟨λi hi=>jb,λi j hi=>jb⟩
def kD.mono(ho:kD h n k C bs lo hi)(hh:∀b,lo<=b->b<hi->h' b=h b){lo' hi':Nat}(h1:lo'<=lo)(h2:hi<=hi'):kD h' n k C bs lo' hi':=
 ⟨λi hi=>by obtain⟨k1,k2,k3⟩:=ho.r i hi;grind,ho.inj⟩
def kD.mono'(ho:kD h n k C bs lo hi)(hh:∀i,i<n->h' (bs i)=h (bs i)){lo' hi':Nat}(h1:lo'<=lo)(h2:hi<=hi'):kD h' n k C bs lo' hi':=
 ⟨λi hi=>by obtain⟨k1,k2,k3⟩:=ho.r i hi;grind,ho.inj⟩
def kD.congr{C':Nat->Nat->List B}(ho:kD h n k C bs lo hi)(hc:∀i,i<n->∀c,c<k i->C i c=C' i c):kD h n k C' bs lo hi:=
 ⟨λi hi=>by obtain⟨k1,k2,k3⟩:=ho.r i hi;grind[dO],ho.inj⟩
def kD.push(ho:kD h n k C bs lo hi){nb:Nat}{c:List B}(hb:h' nb=some ⟨c,none⟩)(hc:c=dF (k n) (C n))(hn:hi<=nb){hi':Nat}(h2:nb<hi')(hl:lo<=nb)(hh:∀b,lo<=b->b<hi->(∃i,i<n/\b=bs i)->h' b=h b):kD h' (n+1) k C (aT bs n nb) lo hi':=by
 refine⟨λi hi1=>?_,λi j hi1 hj e=>?_⟩
 .by_cases e:i=n
  .grind[aS]
  .obtain⟨k1,k2,k3⟩:=ho.r i jb;grind[aW]
 .by_cases e1:i=n<;>by_cases e2:j=n
  .omega
  .exfalso;rw[e1,aS,aW _ _ _ _ e2]at e;have:=(ho.r j jb).2.2;omega
  .exfalso;rw[e2,aS,aW _ _ _ _ e1]at e;have:=(ho.r i jb).2.2;omega
  .rw[aW _ _ _ _ e1,aW _ _ _ _ e2]at e;exact ho.inj i j jb jb e
def qg(C:Nat->Nat->List B)(i c:Nat)(x:List B):Nat->Nat->List B:=λi' c'=>if i'=i/\c'=c then x else C i' c'
def kD.set(ho:kD h n k C bs lo hi){i c:Nat}{x l:List B}(hi1:i<n)(hl:l=dF (k i) (kJ (C i) c x)):kD (hset h (bs i) ⟨l,none⟩) n k (qg C i c x) bs lo hi:=by
 refine⟨λj hj=>?_,ho.inj⟩;obtain⟨k1,k2,k3⟩:=ho.r j hj;by_cases e:j=i
 .grind[Go.Proofs.Xe.aB,Go.Proofs.Xe.dO,Go.Proofs.Xe.kJ,Go.Proofs.Xe.qg]
 .rw[au _ _ _ _ (λe2=>e (ho.inj j i hj hi1 e2)),k1];grind[Go.Proofs.Xe.dO,Go.Proofs.Xe.qg]
def kD.hlp(ho:kD h n k C bs lo hi){p:Nat->Prop}{e:Nat}(hp:∀b,lo<=b->b<hi->p b)(he:0<e)(hC:∀i c,(C i c).length=e)(hk:∀i c,i<n->c<k i->(C i c).all B.kn=true){i:Nat}(hi1:i<n):aZ p h e (wL k bs i) (k i) (C i):=by obtain⟨k1,k2,k3⟩:=ho.r i hi1;exact bf _ k1 rfl (hp _ k2 k3) (hC i) he λc hc=>hk i c hi1 hc
end
def acY(G:Nat->List B)(i:Nat)(a b:List B):kJ (kJ G i a) i b=kJ G i b:=by grind[kJ]
def VO{G:Nat->List B}{e i:Nat}{x:List B}(hG:∀j,(G j).length=e)(hx:x.length=e)(j:Nat):(kJ G i x j).length=e:=by grind[kJ]
def aaO(G:Nat->List B)(i:Nat)(x:List B):kJ G i x i=x:=ae rfl
def akY(t:dJ):LG (λj=>yB (ix t j)) 4:=λ_=>rfl
set_option maxRecDepth 10000 in
def agC{σ:St}(hW:WF σ){b n r:Nat}{G:Nat->List B}{o:Option (Nat×Nat)}(hb:σ.h b=some ⟨dF n G,o⟩)(hr:r<n)(hG:∀j,(G j).length=4)(hpl:plo o=true)(hrd:Xh o=true){t:dJ}{bs:Nat}(hGr:G r=jA (aQ t.length bs) (aU t))(hT:MR σ.h bs t)(hne:t.length=0\/bs≠b)(hbs:t.length=0\/bs<σ.aj)(hl:t.length<=1000000)(k:Int)(q:Rat)(hs:Sz (aU t))(hq:Sz q):
  aC EN 93 [.c (.ptr b (r*4)),.c (.int .i64 k),.agg [.bool (rn q),.str (rs q),.str (rd q)]] σ λ_ σ'=>∃nx,σ.aj<=nx/\nx<σ'.aj/\σ'.h b=some ⟨dF n (kJ G r (jA (.sl nx 0 (t.length+1) .opn) (aU t+q))),o⟩/\σ'.h nx=some ⟨dF t.length (λj=>yB (ix t j))++yB (k,q),some (4,203)⟩/\aP [b,bs] σ σ':=by
 refine aN (mM.o _ _) mM.h ?_
 unfold mM
 dsimp only
 have hbl:=hW.lt hb
 have hFr:=Fr.refl hW
 have l0:ld σ.h b (r*4) 1 false=some (.c (aQ t.length bs)):=by have:=yV (k:=0) (m:=1) false hG hr jj jj;rw[cB,hGr]at this;rw[ak hb,Ls];dsimp only;rw[hrd,cg,this];unfold jA Au;simp[Jv]
 have w0:∀x:B,yc (dF n G) (r*4) [x]=some (dF n (kJ G r (jA x (aU t)))):=λx=>by have:=Ef (k:=0) (vs:=[x]) hG hr kc;rw[cB]at this;rw[this,hGr];rfl
 have r1:∀x:B,Au (dF n (kJ G r (jA x (aU t)))) (r*4+1) 3 true=some (.agg [.bool (rn (aU t)),.str (rs (aU t)),.str (rd (aU t))]):=λx=>by have:=yV (k:=1) (m:=3) (G:=kJ G r (jA x (aU t))) true (VO hG rfl) hr jj jj;rw[this,aaO];rfl
 have w1:∀x a c d:B,yc (dF n (kJ G r (jA x (aU t)))) (r*4+1) [a,c,d]=some (dF n (kJ G r [x,a,c,d])):=λx a c d=>by have:=Ef (k:=1) (vs:=[a,c,d]) (G:=kJ G r (jA x (aU t))) (VO hG rfl) hr kc;rw[this,aaO,<-acY G r (jA x (aU t)) [x,a,c,d]];rfl
 have hLG:=akY t
 unfold MR at hT
 simp(disch:=try exact jz) only[go_sem,z3,l0,aI hb,w0,r1,w1,hpl,hrd,hb,hT]
 refine⟨σ.aj+1+1,jb,jb,?_,?_,?_⟩
 .rfl
 .rw[au _ _ _ _ jb,au _ _ _ _ jb,aB];rfl
 .repeat(first|assumption|exact aP.refl (by assumption)|exact aP.up (by assumption) kf|exact aP.up (aP.refl (by assumption)) kf|refine aP.set1 ?_ kg kf|refine aP.jV ?_ kg|refine aP.mG ?_ kg|refine aP.nG ?_ kf)
end Go.Proofs.Xe
namespace Go.Proofs.Ins
structure GL where
 e:Nat->dV
 k:Nat->Nat
 h:Nat->Nat->Int
 ds:List (Rat×List fD)
def GL.eH(g:GL):List fD:=g.ds.flatMap (·.2)
def gq(g:GL)(x:Nat->Rat)(l:fD):Rat:=qC (g.e l.1) (x l.1) l.2
def gs(g:GL)(x:Nat->Rat)(i:Nat)(l:fD):Rat:=if l.1=i then wB (g.e l.1) (x l.1) l.2 else 0
def Oi(g:GL)(d:Rat×List fD):Int:=match d.2 with|[]=>-1|l::_=>g.h l.1 l.2
def dG(g:GL)(x:Nat->Rat)(j:Nat)(d:Rat×List fD):Rat:=(if Oi g d=(j:Int)then iC d.1 (aG d.2 (gq g x))else 0)+oK d.1 (gq g x) 0 d.2 j
def dM(g:GL)(x:Nat->Rat)(j i:Nat)(d:Rat×List fD):Rat:=
 (if Oi g d=(j:Int)then aG d.2 (gs g x i)-mX d.1 (aG d.2 (gq g x)) (aG d.2 (gs g x i))else 0)+iU d.1 (gq g x) (gs g x i) 0 0 0 d.2 j
def qH(g:GL)(j i c:Nat):Bool:=!(g.eH.contains (i,c))&&g.h i c==(j:Int)
def gG(n:Nat)(g:GL)(x:Nat->Rat)(j:Nat):Rat:=aA n (λi=>aA (g.k i) λc=>if qH g j i c then gq g x (i,c)else 0)+aG g.ds (dG g x j)
def gM(n:Nat)(g:GL)(x:Nat->Rat)(j i:Nat):Rat:=aA (g.k i) (λc=>if qH g j i c then gs g x i (i,c)else 0)+aG g.ds (dM g x j i)
structure Jd(n:Nat)(g:GL):Prop where
 nn:∀i,i<n->Ad (g.e i)
 inn:∀i,i<n->InE (g.k i) (g.e i)
 hold:∀i c,i<n->c<g.k i->g.h i c=-1\/0<=g.h i c/\g.h i c<n
 eH:∀l∈g.eH,l.1<n/\l.2<g.k l.1
 nodup:g.eH.Nodup
 pos:∀d∈g.ds,0<=d.1
section
variable {n:Nat} {g:GL}
def acZ(hg:Jd n g){d:Rat×List fD}(hd:d∈g.ds):Oi g d=-1\/0<=Oi g d/\Oi g d<n:=by
 unfold Oi;split
 .omega
 .next l t e=>
  have h1:=hg.eH l (by grind[GL.eH]);exact hg.hold _ _ h1.1 h1.2
def rE(hg:Jd n g){d:Rat×List fD}(hd:d∈g.ds){l:fD}(hl:l∈d.2):l.1<n:=
 (hg.eH l (cA.mpr ⟨d,hd,hl⟩)).1
def aps(hg:Jd n g){d:Rat×List fD}(hd:d∈g.ds)(v:Rat):aA n (λj=>if Oi g d=(j:Int)then v else 0)=if Oi g d=-1 then 0 else v:=by
 rcases acZ hg hd with h|⟨h1,h2⟩
 .grind[bF]
 .rw[ab jb,iO (k:=(Oi g d).toNat) jb λj _ hne=>ab jb,ae jb]
def akZ(hg:Jd n g){i c:Nat}(hi:i<n)(hc:c<g.k i)(v:Rat):aA n (λj=>if qH g j i c then v else 0)=if(i,c)∈g.eH\/g.h i c=-1 then 0 else v:=by
 by_cases hl:(i,c)∈g.eH
 .grind[bF,qH]
 .rcases hg.hold i c hi hc with h|⟨h1,h2⟩
  .grind[bF,qH]
  .rw[ab kd,iO (k:=(g.h i c).toNat) jb λj _ hne=>?_,ae ?_]
   .grind[qH]
   grind[qH]
theorem PK(hg:Jd n g){x:Nat->Rat}(hx:Nn n x){l:fD}(hl:l.1<n):0<=gq g x l:=Ia (hg.nn _ hl) (hx _ hl) _
def gQ(n:Nat)(q:fD->Rat)(l:fD):Rat:=if l.1<n then q l else 0
theorem JH{W:Rat}{q:fD->Rat}(j:Nat):∀(t:List fD) (Q:Rat),(∀l∈t,l.1<n)->oK W (gQ n q) Q t j=oK W q Q t j
 |[],_,_=>rfl
 |l::t,Q,h=>by have e:gQ n q l=q l:=ae (h l kc);unfold oK;rw[e,JH j t _ λu hu=>h u (by simp[hu])]
theorem SC{W:Rat}{q r:fD->Rat}(j:Nat):∀(t:List fD) (Q R B:Rat),(∀l∈t,l.1<n)->iU W (gQ n q) (gQ n r) Q R B t j=iU W q r Q R B t j
 |[],_,_,_,_=>rfl
 |l::t,Q,R,B,h=>by have e:gQ n q l=q l:=ae (h l kc);have e2:gQ n r l=r l:=ae (h l kc);unfold iU;rw[e,e2,SC j t _ _ _ λu hu=>h u (by simp[hu])]
def ak0(hg:Jd n g){x y:Nat->Rat}(hx:Nn n x)(hxy:Le n x y)(j:Nat):gG n g x j<=gG n g y j:=by
 unfold gG;have h1:∀l:fD,l.1<n->gq g x l<=gq g y l:=λl hl=>MB (hg.nn _ hl) (hx _ hl) (hxy _ hl) _;have h2:aA n (λi=>aA (g.k i) λc=>if qH g j i c then gq g x (i,c)else 0)<=aA n λi=>aA (g.k i) λc=>if qH g j i c then gq g y (i,c)else 0:=
  nT λi hi=>nT λc _=>by grind
 have h3:aG g.ds (dG g x j)<=aG g.ds (dG g y j):=uJ λd hd=>by
  have hl:=λl hl=>rE hg hd (l:=l) hl;have a:aG d.2 (gq g x)<=aG d.2 (gq g y):=uJ λl hl=>h1 l (rE hg hd hl);have b:=MC (W:=d.1) (q:=gQ n (gq g x)) (q':=gQ n (gq g y)) (λl=>by
   grind[gQ,PK]) (λl=>by
   grind[gQ]) j d.2 0 0 aM
  grind[JH,iC,dG]
 grind
def VP(gf:fD->Rat):∀L:List fD,L.Nodup->(∀l∈L,l.1<n/\l.2<g.k l.1)->aA n (λi=>aA (g.k i) λc=>if(i,c)∈L then gf (i,c)else 0)=aG L gf
 |[],_,_=>bF λi _=>bF λc _=>by simp
 |p::t,hn,hl=>by
  rw[List.nodup_cons]at hn;have hp:=hl p kc;have e:aA n (λi=>aA (g.k i) λc=>if(i,c)∈p::t then gf (i,c)else 0)=aA n λi=>(if i=p.1 then gf p else 0)+aA (g.k i) λc=>if(i,c)∈t then gf (i,c)else 0:=aK λi _=>by
   have e2:(if i=p.1 then gf p else 0)=aA (g.k i) λc=>if i=p.1/\c=p.2 then gf p else 0:=by grind[iO,bF]
   rw[e2,<-dA];grind
  have hd:aA n (λi=>if i=p.1 then gf p else 0)=gf p:=by grind[iO]
  rw[e,dA,hd,VP gf t hn.2 λl hl'=>hl l (by simp[hl'])];rfl
def YJ{α:Type}(l:List α)(f:α->List fD)(gf:fD->Rat):aG (l.flatMap f) gf=aG l λa=>aG (f a) gf:=by
 induction l with
 |nil=>rfl
 |cons a l ih=>
  rw[gO]
  have:∀(u v:List fD),aG (u++v) gf=aG u gf+aG v gf:=λu v=>by
   induction u with
   |nil=>grind[aG]
   |cons x u ih=>
    grind[aG]
  rw[this,ih];rfl
def RS(g:GL)(x:Nat->Rat)(i c:Nat):Rat:=if(i,c)∉g.eH/\g.h i c=-1 then gq g x (i,c)else 0
def ac0(g:GL)(x:Nat->Rat)(d:Rat×List fD):Rat:=if Oi g d=-1 then iC d.1 (aG d.2 (gq g x))else 0
def agD(hg:Jd n g)(x:Nat->Rat)(hx:Nn n x):aA n (λi=>x i-gG n g x i)=aA n (λi=>x i-aA (g.k i) (qC (g.e i) (x i)))+aA n (λi=>aA (g.k i) (RS g x i))+aG g.ds (ac0 g x):=by
 have a1:aA n (λj=>aA n λi=>aA (g.k i) λc=>if qH g j i c then gq g x (i,c)else 0)=aA n λi=>aA (g.k i) λc=>if(i,c)∈g.eH\/g.h i c=-1 then 0 else gq g x (i,c):=by rw[yA];refine aK λi hi=>?_;simp_all[yA,aK,akZ]
 have a2:aA n (λj=>aG g.ds (dG g x j))=aG g.ds λd=>(if Oi g d=-1 then 0 else iC d.1 (aG d.2 (gq g x)))+qF (aG d.2 (gq g x)-d.1):=by
  rw[CW g.ds λd j=>dG g x j d];refine dU λd hd=>?_;have e:aA n (λj=>dG g x j d)=aA n (λj=>if Oi g d=(j:Int)then iC d.1 (aG d.2 (gq g x))else 0)+aA n λj=>oK d.1 (gq g x) 0 d.2 j:=by rw[<-dA];rfl
  rw[e,aps hg hd,aaD d.2 0 λl hl=>rE hg hd hl];have h0:=hg.pos d hd;have e2:qF (0-d.1)=0:=by unfold qF;split<;>grind
  grind
 have a3:aA n (λi=>aA (g.k i) λc=>if(i,c)∈g.eH then gq g x (i,c)else 0)=aG g.ds λd=>aG d.2 (gq g x):=by rw[VP (gq g x) g.eH hg.nodup hg.eH];exact YJ _ _ _
 have a4:aA n (λi=>aA (g.k i) λc=>if(i,c)∈g.eH\/g.h i c=-1 then 0 else gq g x (i,c))=aA n (λi=>aA (g.k i) (qC (g.e i) (x i)))-aA n (λi=>aA (g.k i) λc=>if(i,c)∈g.eH then gq g x (i,c)else 0)-aA n (λi=>aA (g.k i) (RS g x i)):=by
  rw[<-gW,<-gW];refine aK λi _=>?_;rw[<-gW,<-gW];refine aK λc _=>?_;have e:qC (g.e i) (x i) c=gq g x (i,c):=rfl;rw[e];unfold RS;by_cases h1:(i,c)∈g.eH
  .rw[ae (.inl h1),ae h1,ab λh=>h.1 h1];grind
  .by_cases h2:g.h i c=-1
   .rw[ae (.inr h2),ab h1,ae ⟨h1,h2⟩];grind
   .rw[ab (by simp[h1,h2]),ab h1,ab λh=>h2 h.2];grind
 have a5:aG g.ds (λd=>(if Oi g d=-1 then 0 else iC d.1 (aG d.2 (gq g x)))+qF (aG d.2 (gq g x)-d.1))=aG g.ds (λd=>aG d.2 (gq g x))-aG g.ds (ac0 g x):=by
  rw[<-Md];refine dU λd hd=>?_;unfold ac0;have e:iC d.1 (aG d.2 (gq g x))+qF (aG d.2 (gq g x)-d.1)=aG d.2 (gq g x):=by unfold iC qF;split<;>split<;>grind
  split<;>grind
 have a6:aA n (λi=>x i-gG n g x i)=aA n x-(aA n (λj=>aA n λi=>aA (g.k i) λc=>if qH g j i c then gq g x (i,c)else 0)+aA n λj=>aG g.ds (dG g x j)):=by rw[<-dA,<-gW];rfl
 grind[gW]
def ak1(hg:Jd n g){x y:Nat->Rat}(hx:Nn n x)(hxy:Le n x y):aA n (λi=>x i-gG n g x i)<=aA n (λi=>y i-gG n g y i):=by
 rw[agD hg x hx,agD hg y (hx.le hxy)];have h0:∀l:fD,l.1<n->gq g x l<=gq g y l:=λl hl=>MB (hg.nn _ hl) (hx _ hl) (hxy _ hl) _;have h1:aA n (λi=>x i-aA (g.k i) (qC (g.e i) (x i)))<=aA n (λi=>y i-aA (g.k i) (qC (g.e i) (y i))):=
  nT λi hi=>VG (hg.nn i hi) (hg.inn i hi) (hx i hi) (hxy i hi)
 have h2:aA n (λi=>aA (g.k i) (RS g x i))<=aA n (λi=>aA (g.k i) (RS g y i)):=nT λi hi=>nT λc _=>by grind[RS]
 have h3:aG g.ds (ac0 g x)<=aG g.ds (ac0 g y):=uJ λd hd=>by have a:aG d.2 (gq g x)<=aG d.2 (gq g y):=uJ λl hl=>h0 l (rE hg hd hl);grind[ac0,iC]
 grind
def gr(g:GL)(x d:Nat->Rat)(l:fD):Rat:=wB (g.e l.1) (x l.1) l.2*d l.1
structure Ok(n:Nat)(g:GL)(x d:Nat->Rat)(s:Rat):Prop where
 e:∀i,i<n->∀c,c<g.k i->qC (g.e i) (x i+s*d i) c=qC (g.e i) (x i) c+s*d i*wB (g.e i) (x i) c
 d:∀d'∈g.ds,okD d'.1 (gq g x) (gr g x d) s 0 0 d'.2
def agE{x d:Nat->Rat}{l:fD}(hl:l.1<n):aA n (λi=>gs g x i l*d i)=gr g x d l:=by grind[gs,gr,iO]
def asL(hg:Jd n g){x:Nat->Rat}(hx:Nn n x){l:fD}(hl:l.1<n)(i:Nat):0<=gs g x i l:=by
 unfold gs;split
 .exact pX (hg.nn _ hl) (hx _ hl) _
 rfl
def SE{W:Rat}{q r:fD->Rat}{s:Rat}:∀(t:List fD) (Q R:Rat),(∀l∈t,l.1<n)->(okD W (gQ n q) (gQ n r) s Q R t↔okD W q r s Q R t)
 |[],_,_,_=>Iff.rfl
 |l::t,Q,R,h=>by have e:gQ n q l=q l:=ae (h l kc);have e2:gQ n r l=r l:=ae (h l kc);unfold okD;rw[e,e2,SE t _ _ λu hu=>h u (by simp[hu])]
def agF(hg:Jd n g){x d:Nat->Rat}(hx:Nn n x)(hd:Nn n d){s:Rat}(h0:0<=s)(ho:Ok n g x d s){j:Nat}(hj:j<n):gG n g (aX x d s) j=gG n g x j+s*mv n (gM n g x) d j:=by
 have hq:∀l:fD,l.1<n->l.2<g.k l.1->gq g (aX x d s) l=gq g x l+s*gr g x d l:=λl h1 h2=>by have:=ho.e l.1 h1 l.2 h2;grind[gq,gr,aX]
 have a1:aA n (λi=>aA (g.k i) λc=>if qH g j i c then gq g (aX x d s) (i,c)else 0)=aA n (λi=>aA (g.k i) λc=>if qH g j i c then gq g x (i,c)else 0)+s*aA n λi=>aA (g.k i) (λc=>if qH g j i c then gs g x i (i,c)else 0)*d i:=by rw[<-fM,<-dA];refine aK λi hi=>?_;rw[<-oH,<-fM,<-dA];grind[Go.Proofs.Ins.aK,Go.Proofs.Ins.gs,Go.Proofs.Ins.gr]
 have a2:∀d'∈g.ds,dG g (aX x d s) j d'=dG g x j d'+s*aA n λi=>dM g x j i d'*d i:=λd' hd'=>by
  have hl:=λl hl=>rE hg hd' (l:=l) hl;have hl2:∀l∈d'.2,l.2<g.k l.1:=λl hl=>(hg.eH l (cA.mpr ⟨d',hd',hl⟩)).2;have hok:=ho.d d' hd';have hcq:∀l,0<=gQ n (gq g x) l:=λl=>by
   unfold gQ;split
   .next h=>exact PK hg hx h
   .exact aM
  have hcr:∀l,0<=gQ n (gr g x d) l:=λl=>by
   unfold gQ;split
   .next h=>exact bR (pX (hg.nn _ h) (hx _ h) _) (hd _ h)
   .exact aM
  have hq0:(0:Rat)<d'.1->s*0<=d'.1-0:=λh=>by grind
  have b1:=aay (W:=d'.1) h0 hcr j d'.2 0 0 aM hq0 ((SE d'.2 0 0 hl).mpr hok);have b2:oK d'.1 (λl=>gQ n (gq g x) l+s*gQ n (gr g x d) l) (0+s*0) d'.2 j=oK d'.1 (gq g (aX x d s)) 0 d'.2 j:=by
   have z:(0:Rat)+s*0=0:=by grind
   rw[z];clear b1 hok hq0;have:∀(t:List fD) (Q:Rat),(∀l∈t,l.1<n/\l.2<g.k l.1)->oK d'.1 (λl=>gQ n (gq g x) l+s*gQ n (gr g x d) l) Q t j=oK d'.1 (gq g (aX x d s)) Q t j:=by
    intro t;induction t with
    |nil=>intro Q _;rfl
    |cons l t ih=>
     intro Q h
     have h1:=h l kc
     have e:gQ n (gq g x) l+s*gQ n (gr g x d) l=gq g (aX x d s) l:=by rw[hq l h1.1 h1.2];unfold gQ;rw[ae h1.1,ae h1.1]
     unfold oK
     rw[e,ih _ λu hu=>h u (by simp[hu])]
   exact this d'.2 0 λl h=>⟨hl l h,hl2 l h⟩
  rw[b2,JH j _ _ hl,SC j _ _ _ _ hl]at b1;have z0:mX d'.1 0 0=0:=by unfold mX;split<;>rfl
  rw[z0]at b1;have b3:iU d'.1 (gq g x) (gr g x d) 0 0 0 d'.2 j=aA n λi=>iU d'.1 (gq g x) (gs g x i) 0 0 0 d'.2 j*d i:=by
   have c:=aaC (n:=n) (W:=d'.1) (q:=gq g x) d (gs g x) j d'.2 0 (λ_=>0) (λ_=>0);have z:aA n (λi=>0*d i)=0:=bF λi _=>by rw[Rat.zero_mul]
   rw[z]at c;rw[<-c];have:∀(t:List fD) (Q R B:Rat),(∀l∈t,l.1<n)->iU d'.1 (gq g x) (gr g x d) Q R B t j=iU d'.1 (gq g x) (λl=>aA n λi=>gs g x i l*d i) Q R B t j:=by
    intro t;induction t with
    |nil=>intro Q R B _;rfl
    |cons l t ih=>
     intro Q R B h
     unfold iU
     rw[agE (h l kc),ih _ _ _ λu hu=>h u (by simp[hu])]
   exact this d'.2 0 0 0 hl
  have b4:aG d'.2 (gq g (aX x d s))=aG d'.2 (gq g x)+s*aG d'.2 (gr g x d):=by rw[<-wz,<-BL];exact dU λl h=>hq l (hl l h) (hl2 l h)
  have b5:aG d'.2 (gr g x d)=aA n λi=>aG d'.2 (gs g x i)*d i:=by
   have:aA n (λi=>aG d'.2 (gs g x i)*d i)=aA n λi=>aG d'.2 λl=>gs g x i l*d i:=aK λi _=>by rw[fi,<-wz];exact dU λl _=>fi _ _
   rw[this,CW d'.2 λl i=>gs g x i l*d i];exact dU λl h=>(agE (hl l h)).symm
  have b6:0<=aG d'.2 (gr g x d):=lY λl h=>bR (pX (hg.nn _ (hl l h)) (hx _ (hl l h)) _) (hd _ (hl l h));have b7:=aaz d'.2 0 0 hok (λh=>by grind);rw[gl,gl]at b7;have b8:=akS (W:=d'.1) h0 b6 b7;have b9:aA n (λi=>(aG d'.2 (gs g x i)-mX d'.1 (aG d'.2 (gq g x)) (aG d'.2 (gs g x i)))*d i)=aG d'.2 (gr g x d)-mX d'.1 (aG d'.2 (gq g x)) (aG d'.2 (gr g x d)):=by rw[b5,aaB,<-gW];exact aK λi _=>by grind
  unfold dG dM;rw[b1,b3,b4,b8];by_cases e:Oi g d'=(j:Int)
  .simp only[ae e];have:aA n (λi=>(aG d'.2 (gs g x i)-mX d'.1 (aG d'.2 (gq g x)) (aG d'.2 (gs g x i))+iU d'.1 (gq g x) (gs g x i) 0 0 0 d'.2 j)*d i)=aA n (λi=>(aG d'.2 (gs g x i)-mX d'.1 (aG d'.2 (gq g x)) (aG d'.2 (gs g x i)))*d i)+aA n λi=>iU d'.1 (gq g x) (gs g x i) 0 0 0 d'.2 j*d i:=by rw[<-dA];exact aK λi _=>by rw[Rat.add_mul]
   rw[this,b9];grind
  .simp only[ab e];have:aA n (λi=>(0+iU d'.1 (gq g x) (gs g x i) 0 0 0 d'.2 j)*d i)=aA n λi=>iU d'.1 (gq g x) (gs g x i) 0 0 0 d'.2 j*d i:=aK λi _=>by rw[gl]
   rw[this];grind
 have a3:aG g.ds (dG g (aX x d s) j)=aG g.ds (dG g x j)+s*aA n λi=>aG g.ds (dM g x j i)*d i:=by rw[dU a2,BL,wz];congr 2;rw[<-CW g.ds λd' i=>dM g x j i d'*d i];refine aK λi _=>?_;rw[fi,<-wz];exact dU λ_ _=>fi _ _
 have a4:mv n (gM n g x) d j=aA n (λi=>aA (g.k i) (λc=>if qH g j i c then gs g x i (i,c)else 0)*d i)+aA n λi=>aG g.ds (dM g x j i)*d i:=by rw[<-dA];exact aK λi _=>by unfold gM;rw[Rat.add_mul]
 grind[gG]
end
def lH(a:iK):List Nat:=(uI a).map Int.toNat
def xZ(cs:List C5)(r:Nat):Nat->dJ
 |0=>[]
 |k+1=>xZ cs r k++if(ix cs k).r=(r:Int)then [((k:Int),(ix cs k).a.q)]else []
def YK(cs:List C5)(k:Nat):fP:=(List.range 8).map λr=>xZ cs r k
def lpS(s:(Nat->Rat)×dJ)(x:Eh):(Nat->Rat)×dJ:=
 if x.k=-1 then(s.1,s.2++[((-1:Int),x.a.q)])
 else((λi=>if i=x.k.toNat then s.1 i-(if x.b=true then iC (s.1 x.k.toNat) x.a.q else s.1 x.k.toNat)else s.1 i),s.2++[(x.k,if x.b=true then iC (s.1 x.k.toNat) x.a.q else s.1 x.k.toNat)])
def ltS(s:(Nat->Rat)×fP)(t:I9):(Nat->Rat)×fP:=((t.foldl lpS (s.1,[])).1,s.2++[(t.foldl lpS (s.1,[])).2])
def lsA(cs:List C5)(a:iK):(Nat->Rat)×fP:=a.foldl ltS ((λi:Nat=>(ix cs i).a.q),[])
def xR(ms:List Nat)(f:Nat->Rat):dJ:=ms.map λi:Nat=>((i:Int),f i)
def qI(cs:List C5)(a:iK):List Nat×fP:=(lH a,(lsA cs a).2++[xR (lH a) (lsA cs a).1])
def dB(e:Bc):dV:=⟨YK e.c e.c.length,e.a.map (qI e.c)⟩
structure Oj(P:Rat->Prop):Prop where
 min:∀a b,P a->P b->P (iC a b)
 sub:∀a b,P a->P b->P (a-iC a b)
 zero:P 0
def Ol(P:Rat->Prop)(n:Nat)(x:Eh):Prop:=(x.k=-1\/0<=x.k/\x.k<n)/\((x.k=-1\/x.b=true)->P x.a.q)
def yE(P:Rat->Prop)(n:Nat)(t:dJ):Prop:=∀p∈t,(p.1=-1\/0<=p.1/\p.1<n)/\P p.2
section
variable {P:Rat→Prop} {n:Nat}
def yE.snoc{t:dJ}(h:yE P n t){p:Int×Rat}(h1:p.1=-1\/0<=p.1/\p.1<n)(h2:P p.2):yE P n (t++[p]):=λq hq=>by
 rcases cj.mp hq with hq|hq
 .exact h q hq
 grind
def asM(hP:Oj P){s:(Nat->Rat)×dJ}(h1:∀i,P (s.1 i))(h2:yE P n s.2){x:Eh}(hx:Ol P n x):(∀i,P ((lpS s x).1 i))/\yE P n (lpS s x).2:=by
 unfold lpS;by_cases e:x.k=-1
 .rw[ae e];exact⟨h1,h2.snoc (.inl rfl) (hx.2 (.inl e))⟩
 .rw[ab e];dsimp only;have self:P (s.1 x.k.toNat-s.1 x.k.toNat):=by rw[show s.1 x.k.toNat-s.1 x.k.toNat=0 by grind];exact hP.zero
  refine⟨λi=>?_,h2.snoc hx.1 ?_⟩
  .split
   .next e2=>
    rw[e2];split
    .next hb=>exact hP.sub _ _ (h1 _) (hx.2 (.inr hb))
    omega
   grind
  .dsimp only;split
   .next hb=>exact hP.min _ _ (h1 _) (hx.2 (.inr hb))
   grind
def YL(hP:Oj P):∀(t:I9){s:(Nat->Rat)×dJ},(∀i,P (s.1 i))->yE P n s.2->(∀x∈t,Ol P n x)->(∀i,P ((t.foldl lpS s).1 i))/\yE P n (t.foldl lpS s).2
 |[],_,h1,h2,_=>⟨h1,h2⟩
 |x::t,s,h1,h2,h=>by obtain⟨h3,h4⟩:=asM hP h1 h2 (h x kc);exact YL hP t h3 h4 λy hy=>h y (by simp[hy])
def wC(P:Rat->Prop)(n:Nat)(l:fP):Prop:=∀t∈l,yE P n t
def wC.snoc{l:fP}(h:wC P n l){t:dJ}(ht:yE P n t):wC P n (l++[t]):=λu hu=>by
 rcases cj.mp hu with hu|hu
 .exact h u hu
 grind
def YM(hP:Oj P):∀(a:iK){s:(Nat->Rat)×fP},(∀i,P (s.1 i))->wC P n s.2->(∀t∈a,∀x∈t,Ol P n x)->(∀i,P ((a.foldl ltS s).1 i))/\wC P n (a.foldl ltS s).2
 |[],_,h1,h2,_=>⟨h1,h2⟩
 |t::a,s,h1,h2,h=>by obtain⟨h3,h4⟩:=YL hP t (s:=(s.1,[])) h1 (λ_ h=>by cases h) (h t kc);exact YM hP a (s:=ltS s t) h3 (h2.snoc h4) λu hu=>h u (by simp[hu])
def agG(hP:Oj P){cs:List C5}{a:iK}(hc:∀i,P (ix cs i).a.q)(ha:∀t∈a,∀x∈t,Ol P n x):(∀i,P ((lsA cs a).1 i))/\wC P n (lsA cs a).2:=YM hP a hc (λ_ h=>by cases h) ha
def rQ{a:iK}(ha:∀t∈a,∀x∈t,x.k=-1\/0<=x.k/\x.k<n):∀c∈uI a,0<=c/\c<n:=λc hc=>by obtain⟨h1,h2⟩:=pI.mp hc;obtain⟨t,ht,hm⟩:=fq.mp h2;obtain⟨x,hx,e⟩:=fq.mp hm;grind
def wE{a:iK}(ha:∀t∈a,∀x∈t,x.k=-1\/0<=x.k/\x.k<n){i:Nat}:i∈lH a↔Oa a (i:Int)=true:=by
 unfold lH;rw[cU];constructor
 .rintro⟨c,hc,rfl⟩;have h1:=rQ ha c hc;rw[eV h1.1];exact(pI.mp hc).2
 .intro h;exact⟨i,pI.mpr ⟨jb,h⟩,by simp⟩
def YO{a:iK}(ha:∀t∈a,∀x∈t,x.k=-1\/0<=x.k/\x.k<n):(lH a).Nodup:=by unfold lH;rw[ik,List.pairwise_map];refine List.Pairwise.imp_of_mem (λ{x y} hx hy h=>?_) (aad a);have:=rQ ha x hx;omega
def aaP(hP:Oj P){cs:List C5}{a:iK}(hc:∀i,P (ix cs i).a.q)(ha:∀t∈a,∀x∈t,Ol P n x):wC P n (qI cs a).2:=by obtain⟨h1,h2⟩:=agG hP hc ha;refine h2.snoc λp hp=>?_;unfold xR at hp;obtain⟨i,hi,rfl⟩:=cU.mp hp;have:=(wE λt ht x hx=>(ha t ht x hx).1).mp hi;have h3:=rQ (a:=a) (λt ht x hx=>(ha t ht x hx).1) i (pI.mpr ⟨jb,this⟩);grind
def MS{cs:List C5}(hc:∀i,i<cs.length->P (ix cs i).a.q)(r:Nat):∀k,k<=cs.length->∀p∈xZ cs r k,(0<=p.1/\p.1<cs.length)/\P p.2
 |0,_,p,hp=>by cases hp
 |k+1,hk,p,hp=>by
  unfold xZ at hp;rcases cj.mp hp with hp|hp
  .exact MS hc r k jb p hp
  grind
end
end Go.Proofs.Ins
namespace Go.Proofs.Xe
open Go.RowKit Go.Proofs.Ins
def dR(D:Nat)(q:Rat):Prop:=∃a:Int,q=(a:Rat)/(D:Rat)
theorem gY{D:Nat}(h:0<D):(D:Rat)≠0:=λe=>by simp_all
section
variable {A B D:Nat} {p q x s:Rat}
theorem dR.zero(D:Nat):dR D 0:=⟨0,by grind⟩
theorem dR.add(h:dR D p)(h':dR D q):dR D (p+q):=by obtain⟨a,rfl⟩:=h;obtain⟨b,rfl⟩:=h';exact⟨a+b,by grind⟩
def dR.neg(h:dR D p):dR D (-p):=by obtain⟨a,rfl⟩:=h;exact⟨-a,by grind⟩
def dR.sub(h:dR D p)(h':dR D q):dR D (p-q):=by rw[im];exact h.add h'.neg
def dR.up(h:dR A p){k:Nat}(hk:0<k):dR (A*k) p:=by
 obtain⟨a,rfl⟩:=h;refine⟨a*k,?_⟩;have h1:=gY hk;have e2:((a*(k:Int):Int):Rat)=(a:Rat)*(k:Rat):=by rw[cP];rfl
 grind
def dR.dvd(h:dR A p)(hd:A∣B)(hB:0<B):dR B p:=by obtain⟨k,rfl⟩:=hd;exact h.up (eJ λe=>by grind)
theorem dR.sum{α:Type}{f:α->Rat}:∀{l:List α},(∀a∈l,dR D (f a))->dR D (aG l f)
 |[],_=>dR.zero D
 |a::l,h=>(h a kc).add (dR.sum λb hb=>h b (by simp[hb]))
def nuA(A:Nat)(s:Rat):Nat:=(s*A).num.natAbs
def SG(hA:0<A)(hs:dR A s)(h0:0<s):s=(nuA A s:Rat)/(A:Rat)/\0<nuA A s:=by
 obtain⟨u,rfl⟩:=hs;have hA:=gY hA;have e:(u:Rat)/(A:Rat)*(A:Rat)=(u:Rat):=by grind
 unfold nuA;rw[e,Rat.num_intCast];have hu:0<u:=by
  have h1:(0:Rat)<=(A:Rat):=by grind
  have h2:=Rat.mul_pos h0 (show(0:Rat)<(A:Rat) by grind);rw[e]at h2;exact Rat.intCast_pos.mp h2
 have e2:((u.natAbs:Nat):Rat)=(u:Rat):=by
  have:((u.natAbs:Int):Rat)=(u:Rat):=by grind
  exact this
 grind
def dR.share(hA:0<A)(hB:0<B)(hp:dR A p)(hx:dR B x)(hs:dR A s)(h0:0<s):dR (B*nuA A s) (p*(x/s)):=by obtain⟨e,hn⟩:=SG hA hs h0;obtain⟨c,rfl⟩:=hp;obtain⟨z,rfl⟩:=hx;generalize nuA A s=n at*;refine⟨c*z,?_⟩;grind
def Zk.of(hD:0<D)(h:dR D q)(h1:0<=q)(h2:q<=((256^uK:Nat):Rat)):Zk D 1 q:=by
 obtain⟨a,rfl⟩:=h;refine⟨a,rfl,?_⟩;have hD':=gY hD;have h3:(0:Rat)<(D:Rat):=by grind
 have e:(a:Rat)/(D:Rat)*(D:Rat)=(a:Rat):=by grind
 have h4:=bh h2 (dt h3);have h5:=bR h1 (dt h3);rw[e]at h4 h5;rw[<-eA]at h4;have h4:((a:Int):Rat)<=(((256^uK*D:Nat):Int):Rat):=h4;have h4:=ft.mp h4;have h5:=Rat.intCast_nonneg.mp h5;grind
end
def uN(A:Nat)(l:fP)(m:Rat):Nat:=if dH l m<l.length then nuA A (aU (ix l (dH l m)))else 1
def Je(A:Nat)(l:fP):Prop:=∀t∈l,∀p∈t,dR A p.2/\0<=p.2
section
variable {A B:Nat} {l:fP} {m:Rat}
def BP{t:dJ}(h:∀p∈t,dR A p.2/\0<=p.2):dR A (aU t):=by
 induction t with
 |nil=>exact dR.zero A
 |cons p t ih=>exact(h p kc).1.add (ih λq hq=>h q (by simp[hq]))
def YP{t:dJ}(h:∀p∈t,dR A p.2/\0<=p.2)(c:Int):dR A (lJ t c):=by
 induction t with
 |nil=>exact dR.zero A
 |cons p t ih=>
  refine dR.add ?_ (ih λq hq=>h q (by simp[hq]))
  grind[dR.zero]
def Je.nn(h:Je A l):Og l:=λt ht p hp=>(h t ht p hp).2
def agH(h:Je A l)(k:Nat):dR A (Ae l k):=by
 unfold Ae;have:∀l:fP,Je A l->dR A (mP l):=λl=>by
  induction l with
  |nil=>intro _;exact dR.zero A
  |cons t l ih=>intro h;exact(BP (h t kc)).add (ih λu hu=>h u (by simp[hu]))
 exact this _ λt ht=>h t (du ht)
def apt(h:Je A l)(c:Int):dR A (F8 l c):=by
 induction l with
 |nil=>exact dR.zero A
 |cons t l ih=>exact(YP (h t kc) c).add (ih λu hu=>h u (by simp[hu]))
def yF(hm:0<=m)(hf:dH l m<l.length):0<aU (ix l (dH l m)):=by have:=Sr l m hm;grind
def qh(hA:0<A)(h:Je A l)(hm:0<=m):0<uN A l m:=by
 unfold uN;split
 .next hf=>exact(SG hA (BP (h _ (fK hf))) (yF hm hf)).2
 .omega
def YR(hA:0<A)(hB:0<B)(hd:A∣B)(h:Je A l)(hm:dR B m):dR B (jf l m):=by rw[MI];exact hm.sub ((agH h _).dvd hd hB)
def agI(hA:0<A)(h:Je A l)(h0:0<=m){R:Nat}(hR:0<R){x:Rat}(hx:dR R x)(hf:dH l m<l.length){q:Rat}(hq:dR A q):dR (R*uN A l m) (q*(x/aU (ix l (dH l m)))):=by unfold uN;rw[ae hf];exact dR.share hA hR hq hx (BP (h _ (fK hf))) (yF h0 hf)
def amJ(hA:0<A)(hB:0<B)(hd:A∣B)(h:Je A l)(hm:dR B m)(h0:0<=m)(c:Int):dR (B*uN A l m) (fO l m c):=by
 have hc:=qh hA h h0;rw[Ib];refine dR.add ((apt (λt ht=>h t (du ht)) c).dvd (bB hd (aL _ _)) (bW hB hc)) ?_;split
 .next hf=>exact agI hA h h0 hB (YR hA hB hd h hm) hf (YP (h _ (fK hf)) c)
 .exact dR.zero _
def amK(hA:0<A)(h:Je A l)(h0:0<=m){R:Nat}(hR:0<R){x:Rat}(hx:dR R x)(c:Int):dR (R*uN A l m) (jy l m x c):=by
 rw[C9];split
 .next hf=>exact agI hA h h0 hR hx hf (YP (h _ (fK hf)) c)
 .exact dR.zero _
end
def ac1(A:Nat)(e:dV)(x:Rat):List (List Nat×fP)->Nat
 |[]=>1
 |p::l=>uN A p.2 (kC e x p)*ac1 A e x l
def Af(A:Nat)(e:dV)(x:Rat):Nat:=uN A e.rk x*ac1 A e x e.ps
structure ED(A:Nat)(U:Rat)(n:Nat)(e:dV):Prop where
 rk:wC (λq=>dR A q/\0<=q/\q<=U) n e.rk
 ps:∀p∈e.ps,wC (λq=>dR A q/\0<=q/\q<=U) n p.2
section
variable {A B n:Nat} {U m:Rat} {e:dV}
def _root_.Go.Proofs.Ins.wC.D{l:fP}(h:wC (λq=>dR A q/\0<=q/\q<=U) n l):Je A l:=λt ht p hp=>⟨(h t ht p hp).2.1,(h t ht p hp).2.2.1⟩
def ED.nn(h:ED A U n e):Ad e:=⟨h.rk.D.nn,λp hp=>(h.ps p hp).D.nn⟩
def amL(hA:0<A)(hB:0<B)(hd:A∣B)(h:ED A U n e)(hm:dR B m)(h0:0<=m)(c:Nat):dR (B*uN A e.rk m) (xY e m c):=amJ hA hB hd h.rk.D hm h0 _
def amM(hA:0<A)(h:ED A U n e)(h0:0<=m)(c:Nat):dR (uN A e.rk m) (rts e m c):=by have:=amK (R:=1) hA h.rk.D h0 jj (x:=1) ⟨1,by grind⟩ c;rwa[Nat.one_mul]at this
def VQ(hA:0<A)(hB:0<B)(hd:A∣B)(h:ED A U n e)(hm:dR B m)(h0:0<=m)(p:List Nat×fP):dR (B*uN A e.rk m) (kC e m p):=dR.sum λc _=>amL hA hB hd h hm h0 c
def aaQ(hA:0<A)(h:ED A U n e)(h0:0<=m)(p:List Nat×fP):dR (uN A e.rk m) (qB e m p):=dR.sum λc _=>amM hA h h0 c
def BQ(A:Nat)(e:dV)(x:Rat):∀{l:List (List Nat×fP)}{p:List Nat×fP},p∈l->uN A p.2 (kC e x p)∣ac1 A e x l
 |q::l,p,h=>by
  rcases bA.mp h with rfl|h
  .exact aL _ _
  .exact bB (BQ A e x h) (gm _ _)
def VR(hA:0<A)(h:ED A U n e)(h0:0<=m):∀{l:List (List Nat×fP)},(∀p∈l,p∈e.ps)->0<ac1 A e m l
 |[],_=>Nat.zero_lt_one
 |p::l,hl=>bW (qh hA (h.ps p (hl p kc)).D (mQ h.nn h0 p)) (VR hA h h0 λq hq=>hl q (by simp[hq]))
def Gh(hA:0<A)(h:ED A U n e)(h0:0<=m):0<Af A e m:=bW (qh hA h.rk.D h0) (VR hA h h0 λ_ h=>h)
def agJ(hA:0<A)(hB:0<B)(hd:A∣B)(h:ED A U n e)(hm:dR B m)(h0:0<=m)(c:Nat):dR (B*Af A e m) (qC e m c):=by
 have hp:=bW hB (Gh hA h h0);have hp1:=bW hB (qh hA h.rk.D h0);unfold qC;refine dR.add ?_ (dR.sum λp hp'=>?_)
 .split
  .exact dR.zero _
  .exact(amL hA hB hd h hm h0 c).dvd (cC _ (aL _ _)) hp
 .refine(amJ hA hp1 (bB hd (aL _ _)) (h.ps p hp').D (VQ hA hB hd h hm h0 p) (mQ h.nn h0 p) c).dvd ?_ hp;rw[fj];exact cC _ (cC _ (BQ A e m hp'))
def agK(hA:0<A)(h:ED A U n e)(h0:0<=m)(c:Nat):dR (Af A e m) (wB e m c):=by
 have hp:=Gh hA h h0;unfold wB;refine dR.add ?_ (dR.sum λp hp'=>?_)
 .split
  .exact dR.zero _
  .exact(amM hA h h0 c).dvd (aL _ _) hp
 .exact(amK hA (h.ps p hp').D (mQ h.nn h0 p) (qh hA h.rk.D h0) (aaQ hA h h0 p) c).dvd (cC _ (BQ A e m hp')) hp
end
end Go.Proofs.Xe
