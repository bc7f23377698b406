import Derived.Test.YthkggcakedkboaaGreatDoorYd20
set_option linter.all false
set_option maxRecDepth 100000
namespace Go.Proofs.Xe
open Go.RowKit Go.Proofs.Ins
structure qO(h:Tr Bk)(rb bc n:Nat)(o:Option (Nat×Nat))(c:Cap)(f:Int->Rat):Prop where
 r:h rb=some ⟨[.sl bc 0 n c,.bool (rn (f (-1))),.str (rs (f (-1))),.str (rd (f (-1)))],none⟩
 c:h bc=some ⟨bZ n λi=>f i,o⟩
 pl:plo o=true
 rd:Yx o=true
 ne:rb≠bc
def Us(f:Int->Rat)(k:Int)(q:Rat):Int->Rat:=λc=>f c+if c=k then q else 0
def qO.set{h:Tr Bk}{rb bc n b:Nat}{o:Option (Nat×Nat)}{c:Cap}{f:Int->Rat}(hr:qO h rb bc n o c f)(h1:rb≠b)(h2:bc≠b)(k:Bk):qO (hset h b k) rb bc n o c f:=
 ⟨by rw[ak _ _ _ _ h1];exact hr.r,by rw[ak _ _ _ _ h2];exact hr.c,hr.pl,hr.rd,hr.ne⟩
def qO.set2{h:Tr Bk}{rb bc n b:Nat}{o:Option (Nat×Nat)}{c:Cap}{f:Int->Rat}(hr:qO h rb bc n o c f)(h1:rb≠b)(h2:bc≠b){k k':Bk}:qO (hset (hset h b k) b k') rb bc n o c f:=(hr.set h1 h2 k).set h1 h2 k'
def auB{σ:St}(hW:WF σ){rb bc n:Nat}{o:Option (Nat×Nat)}{c:Cap}{f:Int->Rat}(hr:qO σ.h rb bc n o c f)(q:Rat)(hq:Sz q)(hz:Sz (f (-1))):
  aC EN 138 [.c (.ptr rb 0),.c (.int .i64 (.negSucc 0)),.agg [.bool (rn q),.str (rs q),.str (rd q)]] σ λ_ σ'=>qO σ'.h rb bc n o c (Us f (-1) q)/\aT [rb,bc] σ σ':=by
 refine aQ (fH.o _ _) fH.h ?_
 unfold fH
 dsimp only
 obtain⟨h0,h1,hpl,hrd,hne⟩:=hr
 have l0:=hW.lt h0
 have l1:=hW.lt h1
 simp(disch:=try exact jz) only[go_sem,z3,au h0,h0]
 refine⟨⟨?_,?_,hpl,hrd,hne⟩,?_⟩
 .rw[aA];simp[Us]
 .rw[ak _ _ _ _ hne.symm,ak _ _ _ _ jb,h1,dN]
  intro i _
  unfold Us
  rw[ae jb];grind
 .repeat(first|assumption|exact aT.refl (by assumption)|exact aT.up (by assumption) kf|exact aT.up (aT.refl (by assumption)) kf|refine aT.set1 ?_ kg kf|refine aT.kK ?_ kg|refine aT.nC ?_ kg|refine aT.nV ?_ kf)
def auC{σ:St}(hW:WF σ){rb bc n:Nat}{o:Option (Nat×Nat)}{c:Cap}{f:Int->Rat}(hr:qO σ.h rb bc n o c f)(q:Rat)(hq:Sz q)(k:Nat)(hz:Sz (f k))(hk:k<n):
  aC EN 138 [.c (.ptr rb 0),.c (.int .i64 (.ofNat k)),.agg [.bool (rn q),.str (rs q),.str (rd q)]] σ λ_ σ'=>qO σ'.h rb bc n o c (Us f k q)/\aT [rb,bc] σ σ':=by
 refine aQ (fH.o _ _) fH.h ?_
 unfold fH
 dsimp only
 obtain⟨h0,h1,hpl,hrd,hne⟩:=hr
 have l0:=hW.lt h0
 have l1:=hW.lt h1
 simp(disch:=try exact jz) only[go_sem,z3,au h0,au h1,h0,h1,hrd,hpl]
 refine⟨⟨?_,?_,hpl,hrd,hne⟩,?_⟩
 .rw[ak _ _ _ _ hne,ak _ _ _ _ jb,h0]
  unfold Us
  rw[ae jb,eh]
 .rw[aA]
  congr 2
  refine dN λi _=>?_
  unfold Us aO
  by_cases e:i=k
  .rw[ab e,ab jb,e]
  .rw[ae e,ae jb,eh]
 .repeat(first|assumption|exact aT.refl (by assumption)|exact aT.up (by assumption) kf|exact aT.up (aT.refl (by assumption)) kf|refine aT.set1 ?_ kg kf|refine aT.kK ?_ kg|refine aT.nC ?_ kg|refine aT.nV ?_ kf)
def aoe{σ:St}(hW:WF σ){rb bc n:Nat}{o:Option (Nat×Nat)}{c:Cap}{f:Int->Rat}(hr:qO σ.h rb bc n o c f)(q:Rat)(hq:Sz q)(k:Int)(hz:Sz (f k))(hk:k=-1\/(0<=k/\k<n)):
  aC EN 138 [.c (.ptr rb 0),.c (.int .i64 k),.agg [.bool (rn q),.str (rs q),.str (rd q)]] σ λ_ σ'=>qO σ'.h rb bc n o c (Us f k q)/\aT [rb,bc] σ σ':=by
 rcases hk with rfl|⟨h1,h2⟩
 .exact auB hW hr q hq hz
 .obtain⟨j,rfl⟩:=cf h1
  exact auC hW hr q hq j hz jb
theorem qO.fr{σ σ':St}{rb bc n:Nat}{o:Option (Nat×Nat)}{c:Cap}{f:Int->Rat}(hW:WF σ)(hf:Fr σ σ')(hr:qO σ.h rb bc n o c f):qO σ'.h rb bc n o c f:=
 ⟨hf.get hW hr.r,hf.get hW hr.c,hr.pl,hr.rd,hr.ne⟩
def u1:1<=256^uK:=df jj
def aej(t:dO)(p:Int×Rat)(c:Int):l9 (t++[p]) c=l9 t c+if c=p.1 then p.2 else 0:=by
 induction t with
 |nil=>
  show(if p.1=c then p.2 else 0)+0=0+if c=p.1 then p.2 else 0
  by_cases h:p.1=c
  .rw[ab h,ab h.symm];grind
  .rw[ae h,ae (Ne.symm h)]
 |cons r t ih=>
  show(if r.1=c then r.2 else 0)+l9 (t++[p]) c=(if r.1=c then r.2 else 0)+l9 t c+_
  rw[ih];grind
def ZY(f:Int->Rat)(t:dO)(u:Rat)(c:Int):Rat:=f c+l9 t c*u
def abZ(f:Int->Rat)(u:Rat):ZY f [] u=f:=by funext c;show f c+0*u=f c;grind
def Xo(f:Int->Rat)(t:dO)(p:Int×Rat)(u:Rat):Us (ZY f t u) p.1 (p.2*u)=ZY f (t++[p]) u:=by funext c;unfold Us ZY;rw[aej];split<;>grind
theorem take_snoc{α:Type}[Inhabited α]{t:List α}{j:Nat}(h:j<t.length):t.take (j+1)=t.take j++[ix t j]:=by rw[bJ h]
theorem fO{α:Type}[Inhabited α]{t:List α}{j:Nat}(h:j<t.length):ix t j∈t:=by rw[dV h];exact List.getElem_mem h
def ab1{σ0 σ:St}(hW0:WF σ0)(hf:Fr σ0 σ){rb bc n:Nat}{o:Option (Nat×Nat)}{c:Cap}{f:Int->Rat}(hrb:σ0.aj<=rb)(hbc:σ0.aj<=bc)(hr:qO σ.h rb bc n o c f)
  (t:dO) (G:B) (hG:HL σ0.h 4 G t.length λj=>zO (ix t j)) (x:Rat) (hx:Sz x) (hs:Sz (aW t)) (h0:aW t≠0) (hqz:Sz (x/aW t)){D k:Nat}(hD:BI D) (hZ:∀c,Zk D k (f c))
  (hp:∀p∈t,(p.1=-1\/(0<=p.1/\p.1<n))/\Sz p.2/\Zk D 1 (p.2*(x/aW t))) (hk:k+t.length<=256^uK) (hn:t.length<=1000000):
  aC EN 139 [.c (.ptr rb 0),.agg (jK G (aW t)),.agg [.bool (rn x),.str (rs x),.str (rd x)]] σ λ_ σ'=>qO σ'.h rb bc n o c (ZY f t (x/aW t))/\(∀c,Zk D (k+t.length) (ZY f t (x/aW t) c))/\aT [rb,bc] σ σ':=by
 refine aQ (jU.o _ _) jU.h ?_
 unfold jU jK
 dsimp only
 have l0:=hf.wf.lt hr.r
 have l1:=hf.wf.lt hr.c
 have hlen:=hG.len
 have hkn:=hG.kn
 have hu:G9 x (aW t)=x/aW t:=by unfold G9;rw[ae h0]
 generalize x/aW t=u at*
 have hW:=hf.wf
 simp(disch:=try exact jz) only[go_sem,z3,hlen,hu,hkn]
 refine bH.st (Fr σ) (fr) λhF=>?_
 refine aF (λm tm σ'=>∃j,m=t.length-j/\j<=t.length/\Tr.ah tm 0=.c (.ptr rb 0)/\Tr.ah tm 6=.c (.ptr (σ.aj+1+1) 0)/\Tr.ah tm 18=.c G/\Tr.ah tm 19=.c (.int .i64 (.ofNat t.length))/\Tr.ah tm 20=.c (.int .i64 (.ofNat j))
  /\σ'.h (σ.aj+1+1)=some ⟨[.bool (rn u),.str (rs u),.str (rd u)],none⟩/\qO σ'.h rb bc n o c (ZY f (t.take j) u)/\(∀c,Zk D (k+j) (ZY f (t.take j) u c))/\aT [rb,bc] σ σ'/\σ.aj+3<=σ'.aj) t.length ?_ ?_
 .refine⟨0,jb,jb,?_⟩
  simp(disch:=try exact jz) only[go_sem,z3,am,cF,abZ]
  exact⟨hr.fr hf.wf hF,hZ,hF.ex _,jb⟩
 .rintro m tm σ' ⟨j,rfl,hj,t0,t6,ou,t19,t20,hq,hr',hZ',hf',hnx⟩
  simp(disch:=try exact jz) only[go_sem,z3,t0,t6,ou,t19,t20]
  refine aH (λhlt=>?_) (λhlt=>?_)
  .obtain⟨b,o',c',rfl,hld⟩:=hG.pos jb
   have hld:=hld j hlt
   have hb0:=hW0.dw hld
   have hld:=hf'.ld hf.wf (by simp;omega) (hf.ld hW0 hld)
   have hpp:=hp _ (fO hlt)
   unfold zO at hld
   have hb:=hf'.wf.dw hld
   have hsn:=Xo f (t.take j) (ix t j) u
   rw[<-take_snoc hlt]at hsn
   generalize ix t j=p at*
   obtain⟨hp1,hp2,hp3⟩:=hpp
   simp(disch:=try exact jz) only[go_sem,z3,t0,t6,ou,t19,t20,hld,au hq]
   refine aC.st (Fr σ') (by have hW':=hf'.wf;exact fr) λhF=>?_
   refine(aoe hF.wf (hr'.fr hf'.wf hF) _ (hp3.sz hD u1) _ ((hZ' _).sz hD (av jb hk)) hp1).mono ?_
   rintro _ σ2 ⟨hr2,hf2⟩
   have hf3:aT [rb,bc] σ' σ2:=aT.trans (hF.ex _) hf2
   have hl2:σ'.aj+1<=σ2.aj:=hf2.le
   have hle:=hf'.le
   simp(disch:=try exact jz) only[go_sem,z3,t0,t6,ou,t19,t20]
   refine⟨t.length-(j+1),jb,j+1,rfl,jb,rfl,hf3.get hf'.wf (by simp;omega) hq,hsn▸hr2,λc=>?_,hf'.trans hf3,jb⟩
   rw[<-hsn]
   refine(hZ' c).add (l:=1) ?_
   split
   .exact hp3
   .exact Zk.zero
  .have:j=t.length:=jb
   subst this
   rw[ck]at hr' hZ'
   simp(disch:=try exact jz) only[go_sem,z3,t0,t6,ou,t19,t20]
   exact⟨hr',hZ',hf'⟩
def Ic:fU->Int->Rat
 |[],_=>0
 |t::l,c=>l9 t c+Ic l c
def dA:fU->Nat
 |[]=>0
 |t::l=>t.length+dA l
def aek(l:fU)(t:dO)(c:Int):Ic (l++[t]) c=Ic l c+l9 t c:=by
 induction l with
 |nil=>show l9 t c+0=0+l9 t c;grind
 |cons u l ih=>show l9 u c+Ic (l++[t]) c=l9 u c+Ic l c+l9 t c;rw[ih];grind
def Oa(l:fU)(t:dO):dA (l++[t])=dA l+t.length:=by
 induction l with
 |nil=>show t.length+0=0+t.length;omega
 |cons u l ih=>show u.length+dA (l++[t])=u.length+dA l+t.length;rw[ih];omega
def Ob(l:fU):∀j,dA (l.take j)<=dA l:=by
 induction l with
 |nil=>intro j;simp
 |cons u l ih=>
  intro j
  cases j with
  |zero=>simp[dA]
  |succ j=>rw[fT];have:=ih j;unfold dA;omega
def Oc(l:fU){j:Nat}(h:j<l.length):dA (l.take j)+(ix l j).length<=dA l:=by rw[<-Oa,<-take_snoc h];exact Ob _ _
theorem NW(l:fU):∀m,dJ l m<=l.length:=by
 induction l with
 |nil=>intro m;exact cK 0
 |cons t l ih=>intro m;unfold dJ;have:=ih (m-aW t);rw[bV];split<;>omega
def Ut{α:Type}[Inhabited α](a:α)(l:List α):ix (a::l) 0=a:=rfl
def KR{α:Type}[Inhabited α](a:α)(l:List α)(j:Nat):ix (a::l) (j+1)=ix l j:=rfl
def Jl(l:fU)(c:Int):∀m,iy l m c=Ic (l.take (dJ l m)) c+if dJ l m<l.length then l9 (ix l (dJ l m)) c*(jr l m/aW (ix l (dJ l m)))else 0:=by
 induction l with
 |nil=>intro m;show(0:Rat)=0+_;simp;grind
 |cons t l ih=>
  intro m
  unfold iy dJ jr
  by_cases h:m<aW t
  .simp only[ab h]
   rw[ab kc,Ut]
   show _=0+_
   grind
  .simp only[ae h]
   rw[ih,fT,KR]
   simp only[bV,Nat.add_lt_add_iff_right]
   show _=l9 t c+Ic _ c+_
   grind
def Eh(l:fU)(c:Int)(r:Rat):∀m,jJ l m r c=if dJ l m<l.length then l9 (ix l (dJ l m)) c*(r/aW (ix l (dJ l m)))else 0:=by
 induction l with
 |nil=>intro m;rfl
 |cons t l ih=>
  intro m
  unfold jJ dJ
  by_cases h:m<aW t
  .simp only[ab h]
   rw[ab kc,Ut]
  .simp only[ae h]
   rw[ih,KR]
   simp only[bV,Nat.add_lt_add_iff_right]
def ael(l:fU):∀m,mF l m=if dJ l m<l.length then some (aW (ix l (dJ l m))-jr l m)else none:=by
 induction l with
 |nil=>intro m;rfl
 |cons t l ih=>
  intro m
  unfold mF dJ jr
  by_cases h:m<aW t
  .simp only[ab h]
   rw[ab kc,Ut]
  .simp only[ae h]
   rw[ih,KR]
   simp only[bV,Nat.add_lt_add_iff_right]
theorem Uu(l:fU):∀m,0<=m->0<=jr l m/\(dJ l m<l.length->jr l m<aW (ix l (dJ l m))):=by
 induction l with
 |nil=>intro m h;exact⟨h,λh=>by simp[dJ]at h⟩
 |cons t l ih=>
  intro m h
  unfold dJ jr
  by_cases h2:m<aW t
  .simp only[ab h2];exact⟨h,λ_=>h2⟩
  .simp only[ae h2]
   obtain⟨a,b⟩:=ih (m-aW t) kd
   exact⟨a,λh=>by rw[KR];exact b (by simp only[bV]at h;omega)⟩
theorem Oe(l:fU):∀m,jr l m=m-BD l (dJ l m):=by
 induction l with
 |nil=>intro m;show m=m-0;grind
 |cons t l ih=>
  intro m
  unfold dJ jr
  by_cases h:m<aW t
  .simp only[ab h];show m=m-0;grind
  .simp only[ae h]
   rw[ih]
   show _=m-(aW t+BD l _)
   grind
structure Og(D n:Nat)(l:fU):Prop where
 len:l.length<=1000000
 tl:∀t∈l,t.length<=1000000
 st:∀t∈l,Sz (aW t)
 id:∀t∈l,∀p∈t,p.1=-1\/(0<=p.1/\p.1<n)
 sp:∀t∈l,∀p∈t,Sz p.2
 zp:∀t∈l,∀p∈t,Zk D 1 p.2
structure Oh(D:Nat)(l:fU)(m x:Rat):Prop where
 cum:∀k,k<=l.length->Sz (m-BD l k)
 nn:0<=m
 sx:Sz x
 q:dJ l m<l.length->Sz (x/aW (ix l (dJ l m)))
 z:dJ l m<l.length->∀p∈ix l (dJ l m),Zk D 1 (p.2*(x/aW (ix l (dJ l m))))
def Oh.ne{D:Nat}{l:fU}{m x:Rat}(h:Oh D l m x)(hf:dJ l m<l.length):aW (ix l (dJ l m))≠0:=by have h1:=Uu l m h.nn;have h2:=h1.2 hf;intro e;rw[e]at h2;have:=h1.1;grind
def Ib.tier{h:Tr Bk}{v:B}{l:fU}(hl:Ib h v l){j:Nat}(hj:j<l.length):∃b o c G,v=.sl b o l.length c/\ld h b (o+j*4) 4 true=some (.agg (jK G (aW (ix l j))))/\HL h 4 G (ix l j).length (λi=>zO (ix (ix l j) i))/\b<0+b+1:=by obtain⟨G,hG,-,hP⟩:=hl;obtain⟨b,o,c,e,hld⟩:=hG.pos jb;exact⟨b,o,c,G j,e,hld j hj,hP j hj,jb⟩
def ab2{σ0 σ:St}(hW0:WF σ0)(hf:Fr σ0 σ){rb bc n:Nat}{o:Option (Nat×Nat)}{c:Cap}{f:Int->Rat}(hrb:σ0.aj<=rb)(hbc:σ0.aj<=bc)(hr:qO σ.h rb bc n o c f)
  (l:fU) (v:B) (hL:Ib σ0.h v l) (m x:Rat){D k:Nat}(hD:BI D) (hl:Og D n l) (hs:Oh D l m x) (hm:Sz m) (hZ:∀c,Zk D k (f c)) (hk:k+dA l<=256^uK):
  aC EN 141 [.c v,.agg [.bool (rn m),.str (rs m),.str (rd m)],.agg [.bool (rn x),.str (rs x),.str (rd x)],.c (.ptr rb 0)] σ λ_ σ'=>qO σ'.h rb bc n o c (λc=>f c+jJ l m x c)/\(∀c,Zk D (k+dA l) (f c+jJ l m x c))/\aT [rb,bc] σ σ':=by
 refine aQ (jW.o _ _) jW.h ?_
 unfold jW
 dsimp only
 have l0:=hf.wf.lt hr.r
 have l1:=hf.wf.lt hr.c
 have hlen:=hL.choose_spec.1.len
 simp(disch:=try exact jz) only[go_sem,z3,hlen]
 have hF:=Fr.new (Fr.new (Fr.refl hf.wf) ⟨[.bool (rn m),.str (rs m),.str (rd m)],none⟩) ⟨[.bool (rn x),.str (rs x),.str (rd x)],none⟩
 refine(Ur l v m _ hF.wf (hL.fr hW0 (hf.trans hF)) (λi hi=>hl.st _ (fO hi)) hs.cum hl.len).mono ?_
 rintro _ σ2 ⟨rfl,hf2⟩
 have hF2:=hF.trans hf2
 have hp2:σ2.h (σ.aj+1)=some ⟨[.bool (rn x),.str (rs x),.str (rd x)],none⟩:=hf2.get hF.wf (aA _ _ _)
 have hl2:σ.aj+1+1<=σ2.aj:=hf2.le
 simp(disch:=try exact jz) only[go_sem,z3,hlen]
 refine aH (λhlt=>?_) (λhlt=>?_)
 .obtain⟨b,o',c',G,rfl,hld,hP,-⟩:=hL.tier hlt
  have hb0:=hW0.dw hld
  have hld:=hF2.ld hf.wf (hf.ld hW0 hld)
  unfold jK at hld
  have hb:=hF2.wf.dw hld
  have J6:=fO hlt
  simp(disch:=try exact jz) only[go_sem,z3,hld,au hp2,hP.kn]
  refine aC.st (Fr σ2) (by have hW2:=hF2.wf;exact fr) λhF3=>?_
  have oW:=hF2.trans hF3
  have hnp:=Oc l hlt
  refine(ab1 hW0 (hf.trans oW) hrb hbc (hr.fr hf.wf oW) (ix l (dJ l m)) G hP x hs.sx (hl.st _ J6) (hs.ne hlt) (hs.q hlt) hD hZ (λp hp=>⟨hl.id _ J6 p hp,hl.sp _ J6 p hp,hs.z hlt p hp⟩) (av jb hk) (hl.tl _ J6)).mono ?_
  rintro _ σ4 ⟨hr4,hZ4,hf4⟩
  have e:ZY f (ix l (dJ l m)) (x/aW (ix l (dJ l m)))=λc=>f c+jJ l m x c:=by funext c;rw[Eh,ab hlt];rfl
  rw[e]at hr4 hZ4
  simp(disch:=try exact jz) only[go_sem,z3]
  exact⟨hr4,λc=>(hZ4 c).mono jb,(oW.ex _).trans hf4⟩
 .have e:(λc=>f c+jJ l m x c)=f:=by funext c;rw[Eh,ae hlt,eh]
  have e2:∀c,f c+jJ l m x c=f c:=λc=>ce e c
  simp(disch:=try exact jz) only[go_sem,z3,e,e2]
  have hr2:=hr.fr hf.wf hF2
  have b0:=hF2.wf.lt hr2.r
  have b1:=hF2.wf.lt hr2.c
  refine⟨hr2.set2 jb jb,λc=>(hZ c).mono jb,Fr.ex (by have hW2:=hF2.wf;exact fr) _⟩
def aof{σ:St}(hW:WF σ)(l:fU)(v:B)(hL:Ib σ.h v l)(m:Rat)(hl:l.length<=1000000)(hst:∀t∈l,Sz (aW t))(hs:∀k,k<=l.length->Sz (m-BD l k)):
  aC EN 182 [.c v,.agg [.bool (rn m),.str (rs m),.str (rd m)]] σ λr σ'=>r=(match mF l m with|some g=>.aY (.agg [.bool (rn g),.str (rs g),.str (rd g)]) (.aY (.c (.bool true)) .tnil)|none=>.aY (.agg [.bool (rn 0),.str (rs 0),.str (rd 0)]) (.aY (.c (.bool false)) .tnil))/\Fr σ σ':=by
 refine aQ (lY.o _ _) lY.h ?_
 unfold lY
 dsimp only
 have hlen:=hL.choose_spec.1.len
 simp(disch:=try exact jz) only[go_sem,z3,hlen]
 have hF:=Fr.new (Fr.new (Fr.refl hW) ⟨[.bool (rn m),.str (rs m),.str (rd m)],none⟩) ⟨[.bool (rn 0),.str (rs 0),.str (rd 0)],none⟩
 refine(Ur l v m _ hF.wf (hL.fr hW hF) (λi hi=>hst _ (fO hi)) hs hl).mono ?_
 rintro _ σ2 ⟨rfl,hf2⟩
 have hF2:=hF.trans hf2
 have hp2:σ2.h (σ.aj+1)=some ⟨[.bool (rn 0),.str (rs 0),.str (rd 0)],none⟩:=hf2.get hF.wf (aA _ _ _)
 have hl2:σ.aj+1+1<=σ2.aj:=hf2.le
 have hfl:=NW l m
 rw[ael]
 simp(disch:=try exact jz) only[go_sem,z3,hlen]
 refine aH (λhlt=>?_) (λhlt=>?_)
 .rw[ae jb]
  simp(disch:=try exact jz) only[go_sem,z3,au hp2,aI hp2,hp2]
  exact fr
 .have hlt:dJ l m<l.length:=jb
  rw[ab hlt]
  obtain⟨b,o',c',G,rfl,hld,hP,-⟩:=hL.tier hlt
  have hld:=hF2.ld hW hld
  unfold jK at hld
  have hb:=hF2.wf.dw hld
  have J6:=hst _ (fO hlt)
  have hlm:Sz (jr l m):=by rw[Oe];exact hs _ hfl
  simp(disch:=try exact jz) only[go_sem,z3,hld,yO hld,au hp2,aI hp2,hp2]
  exact fr
def Jm(f:Int->Rat)(l:fU)(c:Int):Rat:=f c+Ic l c
def ahR(f:Int->Rat):Jm f []=f:=by funext c;show f c+0=f c;grind
def aem(f:Int->Rat)(l:fU)(t:dO):ZY (Jm f l) t 1=Jm f (l++[t]):=by funext c;unfold ZY Jm;rw[aek];grind
def aog{σ0 σ:St}(hW0:WF σ0)(hf:Fr σ0 σ){rb bc n:Nat}{o:Option (Nat×Nat)}{c:Cap}{f:Int->Rat}(hrb:σ0.aj<=rb)(hbc:σ0.aj<=bc)(hr:qO σ.h rb bc n o c f)
  (l:fU) (v:B) (hL:Ib σ0.h v l) (m:Rat){D k:Nat}(hD:BI D) (hl:Og D n l) (hs:Oh D l m (jr l m)) (hm:Sz m) (hZ:∀c,Zk D k (f c)) (hk:k+dA l<=256^uK) (hpos:0<l.length):
  aC EN 96 [.c v,.agg [.bool (rn m),.str (rs m),.str (rd m)],.c (.ptr rb 0)] σ λ_ σ'=>qO σ'.h rb bc n o c (λc=>f c+iy l m c)/\(∀c,Zk D (k+dA l) (f c+iy l m c))/\aT [rb,bc] σ σ':=by
 refine aQ (lU.o _ _) lU.h ?_
 unfold lU
 dsimp only
 have l0:=hf.wf.lt hr.r
 have l1:=hf.wf.lt hr.c
 have hlen:=hL.choose_spec.1.len
 simp(disch:=try exact jz) only[go_sem,z3,hlen]
 have hF:=Fr.new (Fr.refl hf.wf) ⟨[.bool (rn m),.str (rs m),.str (rd m)],none⟩
 refine(Ur l v m _ hF.wf (hL.fr hW0 (hf.trans hF)) (λi hi=>hl.st _ (fO hi)) hs.cum hl.len).mono ?_
 rintro _ σ2 ⟨rfl,hf2⟩
 have hF2:=hF.trans hf2
 have hl2:σ.aj+1<=σ2.aj:=hf2.le
 have hfl:=NW l m
 have hll:=hl.len
 obtain⟨G,hG,hcap,hP⟩:=hL
 obtain⟨b,o',c0,rfl,uZ⟩:=hG.pos hpos
 obtain⟨v',hv',-,⟨h0,-⟩|⟨b2,o2,c2,c',h2,rfl⟩⟩:=aqr hcap (.inr ⟨b,o',c0,rfl,hpos⟩) hfl 4
 .omega
 cases h2
 simp(disch:=try exact jz) only[go_sem,z3,hlen,hv']
 refine bH.st (Fr σ2) (by have hW2:=hF2.wf;exact fr) λhF3=>?_
 have oW:=hF2.trans hF3
 refine aF (λq tm σ'=>∃j,q=dJ l m-j/\j<=dJ l m/\Tr.ah tm 0=.c (.sl b o' l.length c0)/\Tr.ah tm 2=.c (.ptr rb 0)/\Tr.ah tm 6=.c (.int .i64 (.ofNat (dJ l m)))/\Tr.ah tm 7=.c (.ptr σ2.aj 0)
  /\Tr.ah tm 20=.c (.sl b o' (dJ l m) c')/\Tr.ah tm 21=.c (.int .i64 (.ofNat (dJ l m)))/\Tr.ah tm 22=.c (.int .i64 (.ofNat j))
  /\σ'.h σ2.aj=some ⟨[.bool (rn (jr l m)),.str (rs (jr l m)),.str (rd (jr l m))],none⟩/\qO σ'.h rb bc n o c (Jm f (l.take j))/\(∀c,Zk D (k+dA (l.take j)) (Jm f (l.take j) c))/\aT [rb,bc] σ σ'/\σ2.aj+1<=σ'.aj) (dJ l m) ?_ ?_
 .refine⟨0,jb,jb,?_⟩
  simp(disch:=try exact jz) only[go_sem,z3,am,cF,ahR]
  exact⟨hr.fr hf.wf oW,λc=>(hZ c).mono jb,oW.ex _,jp⟩
 .rintro q tm σ' ⟨j,rfl,hj,t0,t2,t6,t7,t20,t21,t22,hq,hr',hZ',hf',hnx⟩
  simp(disch:=try exact jz) only[go_sem,z3,t0,t2,t6,t7,t20,t21,t22]
  refine aH (λhlt=>?_) (λhlt=>?_)
  .have hjl:j<l.length:=jb
   have J6:=fO hjl
   have Ei:=hP j hjl
   have htl:=hl.tl _ J6
   have hpl:=Ei.len
   have aen:=uZ j hjl
   have hb0:=hW0.dw aen
   have hld:=hf'.ld hf.wf (by simp;omega) (hf.ld hW0 aen)
   unfold jK at hld
   have hb:=hf'.wf.dw hld
   simp(disch:=try exact jz) only[go_sem,z3,t0,t2,t6,t7,t20,t21,t22,hld,Ei.kn,hpl]
   refine bH.st (Fr σ') (by have hW2:=hf'.wf;exact fr) λiE=>?_
   refine aF (λq tm σ3=>∃i,q=(ix l j).length-i/\i<=(ix l j).length/\Tr.ah tm 0=.c (.sl b o' l.length c0)/\Tr.ah tm 2=.c (.ptr rb 0)/\Tr.ah tm 6=.c (.int .i64 (.ofNat (dJ l m)))/\Tr.ah tm 7=.c (.ptr σ2.aj 0)
    /\Tr.ah tm 20=.c (.sl b o' (dJ l m) c')/\Tr.ah tm 21=.c (.int .i64 (.ofNat (dJ l m)))/\Tr.ah tm 22=.c (.int .i64 (.ofNat j))/\Tr.ah tm 27=.c (G j)/\Tr.ah tm 28=.c (.int .i64 (.ofNat (ix l j).length))/\Tr.ah tm 29=.c (.int .i64 (.ofNat i))
    /\qO σ3.h rb bc n o c (ZY (Jm f (l.take j)) ((ix l j).take i) 1)/\(∀c,Zk D (k+dA (l.take j)+i) (ZY (Jm f (l.take j)) ((ix l j).take i) 1 c))/\aT [rb,bc] σ' σ3) (ix l j).length ?_ ?_
   .refine⟨0,jb,jb,?_⟩
    simp(disch:=try exact jz) only[go_sem,z3,t0,t2,t6,t7,t20,t21,t22,am,cF,abZ]
    exact⟨hr'.fr hf'.wf iE,hZ',iE.ex _⟩
   .rintro q VR σ3 ⟨i,rfl,hi,t0,t2,t6,t7,t20,t21,t22,t27,t28,t29,hr3,hZ3,hf3⟩
    simp(disch:=try exact jz) only[go_sem,z3,t0,t2,t6,t7,t20,t21,t22,t27,t28,t29]
    refine aH (λZ4=>?_) (λZ4=>?_)
    .obtain⟨b3,o3,c3,e3,uy⟩:=Ei.pos jb
     rw[e3]at t27
     have uy:=uy i Z4
     have hb3:=hW0.dw uy
     have hlx:=(hf'.trans hf3).ld hf.wf (by simp;omega) (hf.ld hW0 uy)
     unfold zO at hlx
     have hb4:=hf3.wf.dw hlx
     have hsn:=Xo (Jm f (l.take j)) ((ix l j).take i) (ix (ix l j) i) 1
     rw[<-take_snoc Z4,Rat.mul_one]at hsn
     have hpm:=fO Z4
     have hid:=hl.id _ J6 _ hpm
     have hsp:=hl.sp _ J6 _ hpm
     have hzp:=hl.zp _ J6 _ hpm
     have hnp:=Oc l hjl
     generalize ix (ix l j) i=p at*
     simp(disch:=try exact jz) only[go_sem,z3,t0,t2,t6,t7,t20,t21,t22,t27,t28,t29,hlx]
     refine aC.st (Fr σ3) (by have hW2:=hf3.wf;exact fr) λlI=>?_
     refine(aoe lI.wf (hr3.fr hf3.wf lI) _ hsp _ ((hZ3 _).sz hD (av jb hk)) hid).mono ?_
     rintro _ σ5 ⟨hr5,hf5⟩
     rw[hsn]at hr5
     simp(disch:=try exact jz) only[go_sem,z3,t0,t2,t6,t7,t20,t21,t22,t27,t28,t29]
     refine⟨(ix l j).length-(i+1),jb,i+1,rfl,jb,e3.symm▸rfl,rfl,hr5,λc=>?_,hf3.trans ((lI.ex _).trans hf5)⟩
     rw[<-hsn]
     refine(hZ3 c).add (l:=1) ?_
     split
     .exact hzp
     .exact Zk.zero
    .have:i=(ix l j).length:=jb
     subst this
     rw[ck,aem,<-take_snoc hjl]at hr3 hZ3
     have hnp:=Oa (l.take j) (ix l j)
     rw[<-take_snoc hjl]at hnp
     have hfx:=hf3.le
     have hqx:=hf3.get hf'.wf (show¬σ2.aj∈[rb,bc] by simp;omega) hq
     simp(disch:=try exact jz) only[go_sem,z3,t0,t2,t6,t7,t20,t21,t22,t27,t28,t29]
     exact⟨dJ l m-(j+1),jb,j+1,rfl,jb,rfl,hqx,hr3,λc=>(hZ3 c).mono jb,hf'.trans hf3,jb⟩
  .have:j=dJ l m:=jb
   subst this
   simp(disch:=try exact jz) only[go_sem,z3,t0,t2,t6,t7,t20,t21,t22]
   refine aH (λhlf=>?_) (λhlf=>?_)
   .have J6:=fO hlf
    have aen:=uZ _ hlf
    have hb0:=hW0.dw aen
    have hld:=hf'.ld hf.wf (by simp;omega) (hf.ld hW0 aen)
    unfold jK at hld
    have hb:=hf'.wf.dw hld
    have hnp:=Oc l hlf
    simp(disch:=try exact jz) only[go_sem,z3,t0,t2,t6,t7,t20,t21,t22,hld,au hq,(hP _ hlf).kn]
    refine(ab1 hW0 (hf'.to hf (by simp;omega)) hrb hbc hr' (ix l (dJ l m)) (G (dJ l m)) (hP _ hlf) (jr l m) hs.sx (hl.st _ J6) (hs.ne hlf) (hs.q hlf) hD hZ' (λp hp=>⟨hl.id _ J6 p hp,hl.sp _ J6 p hp,hs.z hlf p hp⟩) (av jb hk) (hl.tl _ J6)).mono ?_
    rintro _ σ4 ⟨hr4,hZ4,hf5⟩
    have e:ZY (Jm f (l.take (dJ l m))) (ix l (dJ l m)) (jr l m/aW (ix l (dJ l m)))=λc=>f c+iy l m c:=by funext c;rw[Jl,ab hlf];unfold ZY Jm;grind
    rw[e]at hr4 hZ4
    simp(disch:=try exact jz) only[go_sem,z3]
    exact⟨hr4,λc=>(hZ4 c).mono jb,hf'.trans hf5⟩
   .have e:Jm f (l.take (dJ l m))=λc=>f c+iy l m c:=by funext c;rw[Jl,ae hlf];unfold Jm;grind
    have hnp:=Ob l (dJ l m)
    rw[e]at hr' hZ'
    simp(disch:=try exact jz) only[go_sem,z3]
    exact⟨hr',λc=>(hZ' c).mono jb,hf'⟩
theorem mJ{α:Type}(l:List α)(a:α)(f:α->Rat):aJ (l++[a]) f=aJ l f+f a:=by
 induction l with
 |nil=>show f a+0=0+f a;grind
 |cons b l ih=>show f b+aJ (l++[a]) f=f b+aJ l f+f a;rw[ih];grind
def Uw{α:Type}{D k:Nat}{f:α->Rat}:∀{l:List α},(∀a∈l,Zk D k (f a))->Zk D (k*l.length) (aJ l f)
 |[],_=>Zk.zero
 |a::l,h=>by have:=(h a kc).add (Uw (l:=l) λb hb=>h b (by simp[hb]));rw[bV,Nat.mul_succ,ff];exact this
def ahS{α:Type}{l:List α}{a:α}{j:Nat}(h:a∈l.take j):a∈l:=di h
def PN(ms:List Nat)(i:Nat):B:=.int .i64 (.ofNat (ix ms i))
def Ie{σ:St}(hW:WF σ){n:Nat}(ms:List Nat)(mv lv rv:B)(f:Nat->Rat)(hm:HC σ.h mv ms.length (PN ms))(hv:HL σ.h 3 rv n λi=>gX (f i))(hms:∀i∈ms,i<n)(hl:ms.length<=1000000)
  {D k:Nat}(hD:BI D) (hZ:∀i,i<n->Zk D k (f i)) (hk:k*(ms.length+1)<=256^uK):
  aC EN 97 [.agg [mv,lv],.c rv] σ λr σ'=>r=.agg [.bool (rn (aJ ms f)),.str (rs (aJ ms f)),.str (rd (aJ ms f))]/\Fr σ σ':=by
 refine aQ (lV.o _ _) lV.h ?_
 unfold lV
 dsimp only
 have hlen:=hm.len
 simp(disch:=try exact jz) only[go_sem,z3,hlen,hm.kn]
 refine bH.st (Fr σ) (fr) λhF=>?_
 refine aF (λq tm σ'=>∃j,q=ms.length-j/\j<=ms.length/\Tr.ah tm 1=.c rv/\Tr.ah tm 4=.c (.ptr (σ.aj+1) 0)/\Tr.ah tm 5=.c (.ptr (σ.aj+1+1) 0)/\Tr.ah tm 10=.c mv/\Tr.ah tm 11=.c (.int .i64 (.ofNat ms.length))/\Tr.ah tm 12=.c (.int .i64 (.ofNat j))
  /\σ'.h (σ.aj+1)=some ⟨[.bool (rn 0),.str (rs 0),.str (rd 0)],none⟩/\σ'.h (σ.aj+1+1)=some ⟨[.bool (rn (aJ (ms.take j) f)),.str (rs (aJ (ms.take j) f)),.str (rd (aJ (ms.take j) f))],none⟩/\Fr σ σ'/\σ.aj+3<=σ'.aj) ms.length ?_ ?_
 .refine⟨0,jb,jb,?_⟩
  simp(disch:=try exact jz) only[go_sem,z3,am,cF,show aJ ([]:List Nat) f=0 from rfl]
  exact⟨hF,jb⟩
 .rintro q tm σ' ⟨j,rfl,hj,t1,t4,t5,t10,t11,t12,hq1,hq2,hf',hnx⟩
  simp(disch:=try exact jz) only[go_sem,z3,t1,t4,t5,t10,t11,t12]
  refine aH (λhlt=>?_) (λhlt=>?_)
  .obtain⟨b,o,c,rfl,hld⟩:=hm.pos jb
   have hld:=hf'.ld hW (hld j hlt)
   have hn:=hms _ (fO hlt)
   obtain⟨b2,o2,c2,rfl,Ez⟩:=hv.pos jb
   have Ez:=hf'.ld hW (Ez _ hn)
   have hb2:=hf'.wf.dw Ez
   unfold PN at hld
   unfold gX at Ez
   have hsn:=mJ (ms.take j) (ix ms j) f
   rw[<-take_snoc hlt]at hsn
   have hz1:Sz (f (ix ms j)):=(hZ _ hn).sz hD (av (fS _ jb) hk)
   have hz2:Sz (aJ (ms.take j) f):=(Uw λa ha=>hZ a (hms a (ahS ha))).sz hD (av (cw _ (by rw[dc];omega)) hk)
   simp(disch:=try exact jz) only[go_sem,z3,t1,t4,t5,t10,t11,t12,hld,Ez,au hq2,hq1,hq2,aI hq2,<-hsn]
   refine⟨ms.length-(j+1),jb,j+1,rfl,jb,rfl,rfl,?_,jb⟩
   exact fr
  .have:j=ms.length:=jb
   subst this
   rw[ck]at hq2
   simp(disch:=try exact jz) only[go_sem,z3,t1,t4,t5,t10,t11,t12,au hq2,hq1,aI hq1]
   exact fr
structure Jo(h:Tr Bk)(rv pv:B)(e:eH):Prop where
 rk:Ib h rv e.rk
 ps:∃Gm Gl:Nat->B,HL h 2 pv e.ps.length (λi=>[Gm i,Gl i])/\∀i,i<e.ps.length->HC h (Gm i) (ix e.ps i).1.length (PN (ix e.ps i).1)/\Ib h (Gl i) (ix e.ps i).2
theorem Jo.fr{σ σ':St}(hW:WF σ)(hf:Fr σ σ'){rv pv:B}{e:eH}(h:Jo σ.h rv pv e):Jo σ'.h rv pv e:=by obtain⟨h1,Gm,Gl,h2,h3⟩:=h;exact⟨h1.fr hW hf,Gm,Gl,h2.fr hW hf,λi hi=>⟨(h3 i hi).1.fr hW hf,(h3 i hi).2.fr hW hf⟩⟩
def jo(n:Nat)(rv pv:B)(t:Rat):List B:=[.int .i64 (.ofNat n),rv,pv,.bool (rn t),.str (rs t),.str (rd t)]
def Ib.kn{h:Tr Bk}{v:B}{l:fU}(hl:Ib h v l):v.kn=true:=hl.choose_spec.1.kn
def Jo.Vr{h:Tr Bk}{rv pv:B}{e:eH}(hl:Jo h rv pv e):pv.kn=true:=by obtain⟨_,Gm,Gl,h2,h3⟩:=hl;exact h2.kn
structure auD(σ σ':St)(r:V)(n:Nat)(f:Nat->Rat)(b:Nat):Prop where
 r:r=.c (.sl b 0 n (.ex n))
 c:σ'.h b=some ⟨bZ n f,none⟩
 b:σ.aj<=b
def KT{σ:St}(hW:WF σ){n:Nat}{rv pv:B}(t:Rat)(e:eH)(hL:Jo σ.h rv pv e)(m:Rat){D:Nat}(hD:BI D)(hn:n<=1000000)(hl:Og D n e.rk)(hs:Oh D e.rk m (jr e.rk m))(hm:Sz m)(hk:dA e.rk<=256^uK)(hpos:0<e.rk.length):
  aC EN 57 [.agg (jo n rv pv t),.agg [.bool (rn m),.str (rs m),.str (rd m)]] σ λr σ'=>(∃b,auD σ σ' r n (λi=>zC e m i) b)/\(∀i:Nat,Zk D (dA e.rk) (zC e m i))/\Fr σ σ':=by
 refine aQ (jP.o _ _) jP.h ?_
 unfold jP jo
 dsimp only
 simp(disch:=try exact jz) only[go_sem,z3,hL.rk.kn]
 refine aC.st (Fr σ) (fr) λhF=>?_
 refine(aog (f:=λ_=>0) (k:=0) hW hF jb jb ⟨aA _ _ _,(ak _ _ _ _ jb).trans (aA _ _ _),rfl,rfl,jb⟩ e.rk rv hL.rk m hD hl hs hm (λ_=>Zk.zero) jb hpos).mono ?_
 rintro _ σ2 ⟨hr2,hZ2,hf2⟩
 have hz:(λc=>(0:Rat)+iy e.rk m c)=iy e.rk m:=by funext c;grind
 have hz2:∀c,(0:Rat)+iy e.rk m c=iy e.rk m c:=λc=>by grind
 rw[hz]at hr2
 simp only[hz2,cN]at hZ2
 have h5:=hr2.r
 simp(disch:=try exact jz) only[go_sem,z3,au h5]
 exact⟨⟨_,rfl,hr2.c,jb⟩,λi=>hZ2 i,hf2.to hF (by simp;omega)⟩
def ab4{σ:St}(hW:WF σ){n:Nat}{rv pv:B}(t:Rat)(e:eH)(hL:Jo σ.h rv pv e)(m:Rat){D:Nat}(hD:BI D)(hn:n<=1000000)(hl:Og D n e.rk)(hs:Oh D e.rk m 1)(hm:Sz m)(hk:dA e.rk<=256^uK):
  aC EN 140 [.agg (jo n rv pv t),.agg [.bool (rn m),.str (rs m),.str (rd m)]] σ λr σ'=>(∃b,auD σ σ' r n (λi=>rts e m i) b)/\(∀i:Nat,Zk D (dA e.rk) (rts e m i))/\Fr σ σ':=by
 refine aQ (jV.o _ _) jV.h ?_
 unfold jV jo
 dsimp only
 simp(disch:=try exact jz) only[go_sem,z3,hL.rk.kn]
 refine aC.st (Fr σ) (fr) λhF=>?_
 refine(ab2 (f:=λ_=>0) (k:=0) hW hF jb jb ⟨aA _ _ _,(ak _ _ _ _ jb).trans (aA _ _ _),rfl,rfl,jb⟩ e.rk rv hL.rk m 1 hD hl hs hm (λ_=>Zk.zero) jb).mono ?_
 rintro _ σ2 ⟨hr2,hZ2,hf2⟩
 have hz:(λc=>(0:Rat)+jJ e.rk m 1 c)=jJ e.rk m 1:=by funext c;grind
 have hz2:∀c,(0:Rat)+jJ e.rk m 1 c=jJ e.rk m 1 c:=λc=>by grind
 rw[hz]at hr2
 simp only[hz2,cN]at hZ2
 have h5:=hr2.r
 simp(disch:=try exact jz) only[go_sem,z3,au h5]
 exact⟨⟨_,rfl,hr2.c,jb⟩,λi=>hZ2 i,hf2.to hF (by simp;omega)⟩
def ab5{σ:St}(hW:WF σ){n b:Nat}{c:Cap}{f:Nat->Rat}(hb:σ.h b=some ⟨bZ n f,none⟩)(hn:n<=1000000):
  aC EN 55 [.c (.sl b 0 n c)] σ λr σ'=>(∃b' c' o',r=.c (.sl b' 0 n c')/\σ'.h b'=some ⟨bZ n f,o'⟩/\plo o'=true/\Yx o'=true/\σ.aj<=b'/\b'<σ'.aj)/\Fr σ σ':=by
 refine aQ (iG.o _ _) iG.h ?_
 unfold iG
 dsimp only
 have hbl:=hW.lt hb
 by_cases h0:n=0
 .subst h0
  simp(disch:=try exact jz) only[go_sem,z3,hb]
  refine⟨⟨σ.aj,_,none,rfl,aA _ _ _,rfl,rfl,jp,bN _⟩,?_⟩
  exact fr
 .simp(disch:=try exact jz) only[go_sem,z3,hb]
  refine⟨⟨σ.aj+1,_,_,rfl,aA _ _ _,rfl,rfl,jb,bN _⟩,?_⟩
  exact fr
def zF(l:List Nat)(f:Nat->Rat):Int->Rat:=λi=>if 0<=i then(if l.contains i.toNat then 0 else f i.toNat)else 0
def Oi(l:List Nat)(f:Nat->Rat):zF l f (-1)=0:=ae jb
def Ux(l:List Nat)(f:Nat->Rat)(i:Nat):zF l f i=if l.contains i then 0 else f i:=by unfold zF;rw[ab jb,gi]
def amk(l:List Nat)(f:Nat->Rat)(k n:Nat):bZ n (aO (λi=>zF l f i) k 0)=bZ n λi=>zF (l++[k]) f i:=by
 refine dN λi _=>?_;show(if i=k then 0 else zF l f i)=_;rw[Ux,Ux,List.contains_append];by_cases h:i=k
 .subst h;simp
 .rw[ae h];simp[h]
def flat(ps:List (List Nat×fU)):List Nat:=ps.flatMap λp=>p.1
def aeo(ps:List (List Nat×fU))(p:List Nat×fU):flat (ps++[p])=flat ps++p.1:=by unfold flat;simp
def JU(e:eH)(c:Nat):(flat e.ps).contains c=pooled e c:=by
 unfold flat pooled;induction e.ps with
 |nil=>rfl
 |cons p l ih=>rw[ia,List.contains_append,List.any_cons,ih]
def ahT{σ:St}(hW:WF σ){n b:Nat}{rv pv:B}(t:Rat)(e:eH)(hL:Jo σ.h rv pv e){f:Nat->Rat}(hb:σ.h b=some ⟨bZ n f,none⟩){c:Cap}(hn:n<=1000000)(hp:e.ps.length<=1000000)(hm:∀p∈e.ps,p.1.length<=1000000/\∀i∈p.1,i<n):
  aC EN 95 [.agg (jo n rv pv t),.c (.sl b 0 n c)] σ λr σ'=>(∃rb bc o c',r=.c (.ptr rb 0)/\qO σ'.h rb bc n o c' (zF (flat e.ps) f)/\σ.aj<=rb/\σ.aj<=bc)/\Fr σ σ':=by
 refine aQ (kM.o _ _) kM.h ?_
 unfold kM jo
 dsimp only
 simp(disch:=try exact jz) only[go_sem,z3]
 refine aC.st (Fr σ) (fr) λhF=>?_
 refine(ab5 hF.wf (hF.get hW hb) hn).mono ?_
 rintro _ σ2 ⟨⟨bc,c',o,rfl,h2,hpl,hrd,hbc,hbc2⟩,hf2⟩
 have hF2:=hF.trans hf2
 obtain⟨-,Gm,Gl,hG,hP⟩:=hL
 have hlen:=hG.len
 have hbox:σ2.h σ.aj=some ⟨[.int .i64 (.ofNat n),rv,pv,.bool (rn t),.str (rs t),.str (rd t)],none⟩:=hf2.get hF.wf (aA _ _ _)
 have hl2:σ.aj+1<=σ2.aj:=hf2.le
 have hbc:σ.aj+1<=bc:=hbc
 simp(disch:=try exact jz) only[go_sem,z3,au hbox,hlen,hG.kn]
 refine aF (λq tm σ'=>∃j,q=e.ps.length-j/\j<=e.ps.length/\Tr.ah tm 5=.c (.ptr σ2.aj 0)/\Tr.ah tm 15=.c pv/\Tr.ah tm 16=.c (.int .i64 (.ofNat e.ps.length))/\Tr.ah tm 17=.c (.int .i64 (.ofNat j))
  /\qO σ'.h σ2.aj bc n o c' (zF (flat (e.ps.take j)) f)/\Fr σ σ'/\σ2.aj+1<=σ'.aj) e.ps.length ?_ ?_
 .refine⟨0,jb,jb,?_⟩
  simp(disch:=try exact jz) only[go_sem,z3,am,cF]
  refine⟨⟨?_,?_,hpl,hrd,jb⟩,?_,jp⟩
  .rw[aA,Oi]
  .rw[ak _ _ _ _ jb,h2]
   congr 2
  .exact fr
 .rintro q tm σ' ⟨j,rfl,hj,t5,t15,t16,t17,hr,hf',hnx⟩
  simp(disch:=try exact jz) only[go_sem,z3,t5,t15,t16,t17]
  refine aH (λhlt=>?_) (λhlt=>?_)
  .obtain⟨b2,o2,c2,rfl,hld⟩:=hG.pos jb
   have hld:=hf'.ld hW (hld j hlt)
   have hb2:=hf'.wf.dw hld
   have Ei:=hP j hlt
   have hpl2:=Ei.1.len
   have hmj:=hm _ (fO hlt)
   have hfs:=aeo (e.ps.take j) (ix e.ps j)
   rw[<-take_snoc hlt]at hfs
   generalize ix e.ps j=p at*
   simp(disch:=try exact jz) only[go_sem,z3,t5,t15,t16,t17,hld,Ei.1.kn,Ei.2.kn,hpl2]
   refine bH.st (Fr σ') (by have hW2:=hf'.wf;exact fr) λiE=>?_
   refine aF (λq tm σ3=>∃i,q=p.1.length-i/\i<=p.1.length/\Tr.ah tm 5=.c (.ptr σ2.aj 0)/\Tr.ah tm 15=.c (.sl b2 o2 e.ps.length c2)/\Tr.ah tm 16=.c (.int .i64 (.ofNat e.ps.length))/\Tr.ah tm 17=.c (.int .i64 (.ofNat j))
    /\Tr.ah tm 22=.c (Gm j)/\Tr.ah tm 23=.c (.int .i64 (.ofNat p.1.length))/\Tr.ah tm 24=.c (.int .i64 (.ofNat i))
    /\qO σ3.h σ2.aj bc n o c' (zF (flat (e.ps.take j)++p.1.take i) f)/\Fr σ σ3/\σ2.aj+1<=σ3.aj) p.1.length ?_ ?_
   .refine⟨0,jb,jb,?_⟩
    simp(disch:=try exact jz) only[go_sem,z3,t5,t15,t16,t17,am,cF,dp]
    exact⟨hr.fr hf'.wf iE,hf'.trans iE,jb⟩
   .rintro q VR σ3 ⟨i,rfl,hi,t5,t15,t16,t17,t22,t23,t24,hr3,hf3,hn3⟩
    simp(disch:=try exact jz) only[go_sem,z3,t5,t15,t16,t17,t22,t23,t24]
    refine aH (λZ4=>?_) (λZ4=>?_)
    .obtain⟨b3,o3,c3,e3,uy⟩:=Ei.1.pos jb
     rw[e3]at t22
     have uy:=hf3.ld hW (uy i Z4)
     unfold PN at uy
     have hin:=hmj.2 _ (fO Z4)
     have hzs:=amk (flat (e.ps.take j)++p.1.take i) f (ix p.1 i) n
     rw[hJ,<-take_snoc Z4]at hzs
     have auE:=hr3.r
     have auF:=hr3.c
     have hb3:=hf3.wf.lt auF
     simp(disch:=try exact jz) only[go_sem,z3,t5,t15,t16,t17,t22,t23,t24,uy,au auE,aI auF,hpl,hzs]
     refine⟨p.1.length-(i+1),jb,i+1,rfl,jb,e3.symm▸rfl,rfl,⟨?_,aA _ _ _,hpl,hrd,jb⟩,?_,jb⟩
     .rw[ak _ _ _ _ jb,auE,Oi,Oi]
     .exact fr
    .have:i=p.1.length:=jb
     subst this
     rw[ck,<-hfs]at hr3
     simp(disch:=try exact jz) only[go_sem,z3,t5,t15,t16,t17,t22,t23,t24]
     exact⟨e.ps.length-(j+1),jb,j+1,rfl,jb,rfl,hr3,hf3,jb⟩
  .have:j=e.ps.length:=jb
   subst this
   rw[ck]at hr
   simp(disch:=try exact jz) only[go_sem,z3,t5,t15,t16,t17]
   exact⟨⟨_,_,_,_,rfl,hr,jb,jb⟩,hf'⟩
end Go.Proofs.Xe
