import Derived.Test.YthkggcakedkboaaGreatDoorY19
set_option linter.all false
set_option maxRecDepth 100000
namespace Go.Proofs.Xe
open Go.RowKit Go.Proofs.Ins
structure pY(h:Tr Bk)(rb bc n:Nat)(o:Option (Nat×Nat))(c:Cap)(f:Int->Rat):Prop where
 r:h rb=some ⟨[.sl bc 0 n c,.bool (rn (f (-1))),.str (rs (f (-1))),.str (rd (f (-1)))],none⟩
 c:h bc=some ⟨bU n λi=>f i,o⟩
 pl:plo o=true
 rd:Xh o=true
 ne:rb≠bc
def Si(f:Int->Rat)(k:Int)(q:Rat):Int->Rat:=λc=>f c+if c=k then q else 0
def pY.set{h:Tr Bk}{rb bc n b:Nat}{o:Option (Nat×Nat)}{c:Cap}{f:Int->Rat}(hr:pY h rb bc n o c f)(h1:rb≠b)(h2:bc≠b)(k:Bk):pY (hset h b k) rb bc n o c f:=
 ⟨by rw[au _ _ _ _ h1];exact hr.r,by rw[au _ _ _ _ h2];exact hr.c,hr.pl,hr.rd,hr.ne⟩
def pY.set2{h:Tr Bk}{rb bc n b:Nat}{o:Option (Nat×Nat)}{c:Cap}{f:Int->Rat}(hr:pY h rb bc n o c f)(h1:rb≠b)(h2:bc≠b){k k':Bk}:pY (hset (hset h b k) b k') rb bc n o c f:=(hr.set h1 h2 k).set h1 h2 k'
def asA{σ:St}(hW:WF σ){rb bc n:Nat}{o:Option (Nat×Nat)}{c:Cap}{f:Int->Rat}(hr:pY σ.h rb bc n o c f)(q:Rat)(hq:Sz q)(hz:Sz (f (-1))):
  aC EN 138 [.c (.ptr rb 0),.c (.int .i64 (.negSucc 0)),.agg [.bool (rn q),.str (rs q),.str (rd q)]] σ λ_ σ'=>pY σ'.h rb bc n o c (Si f (-1) q)/\aP [rb,bc] σ σ':=by
 refine aN (fA.o _ _) fA.h ?_
 unfold fA
 dsimp only
 obtain⟨h0,h1,hpl,hrd,hne⟩:=hr
 have l0:=hW.lt h0
 have l1:=hW.lt h1
 simp(disch:=try exact jz) only[go_sem,z3,ak h0,h0]
 refine⟨⟨?_,?_,hpl,hrd,hne⟩,?_⟩
 .rw[aB];simp[Si]
 .rw[au _ _ _ _ hne.symm,au _ _ _ _ jb,h1,dI]
  intro i _
  unfold Si
  rw[ab jb];grind
 .repeat(first|assumption|exact aP.refl (by assumption)|exact aP.up (by assumption) kf|exact aP.up (aP.refl (by assumption)) kf|refine aP.set1 ?_ kg kf|refine aP.jV ?_ kg|refine aP.mG ?_ kg|refine aP.nG ?_ kf)
def asB{σ:St}(hW:WF σ){rb bc n:Nat}{o:Option (Nat×Nat)}{c:Cap}{f:Int->Rat}(hr:pY σ.h rb bc n o c f)(q:Rat)(hq:Sz q)(k:Nat)(hz:Sz (f k))(hk:k<n):
  aC EN 138 [.c (.ptr rb 0),.c (.int .i64 (.ofNat k)),.agg [.bool (rn q),.str (rs q),.str (rd q)]] σ λ_ σ'=>pY σ'.h rb bc n o c (Si f k q)/\aP [rb,bc] σ σ':=by
 refine aN (fA.o _ _) fA.h ?_
 unfold fA
 dsimp only
 obtain⟨h0,h1,hpl,hrd,hne⟩:=hr
 have l0:=hW.lt h0
 have l1:=hW.lt h1
 simp(disch:=try exact jz) only[go_sem,z3,ak h0,ak h1,h0,h1,hrd,hpl]
 refine⟨⟨?_,?_,hpl,hrd,hne⟩,?_⟩
 .rw[au _ _ _ _ hne,au _ _ _ _ jb,h0]
  unfold Si
  rw[ab jb,cF]
 .rw[aB]
  congr 2
  refine dI λi _=>?_
  unfold Si aT
  by_cases e:i=k
  .rw[ae e,ae jb,e]
  .rw[ab e,ab jb,cF]
 .repeat(first|assumption|exact aP.refl (by assumption)|exact aP.up (by assumption) kf|exact aP.up (aP.refl (by assumption)) kf|refine aP.set1 ?_ kg kf|refine aP.jV ?_ kg|refine aP.mG ?_ kg|refine aP.nG ?_ kf)
def amF{σ:St}(hW:WF σ){rb bc n:Nat}{o:Option (Nat×Nat)}{c:Cap}{f:Int->Rat}(hr:pY σ.h rb bc n o c f)(q:Rat)(hq:Sz q)(k:Int)(hz:Sz (f k))(hk:k=-1\/(0<=k/\k<n)):
  aC EN 138 [.c (.ptr rb 0),.c (.int .i64 k),.agg [.bool (rn q),.str (rs q),.str (rd q)]] σ λ_ σ'=>pY σ'.h rb bc n o c (Si f k q)/\aP [rb,bc] σ σ':=by
 rcases hk with rfl|⟨h1,h2⟩
 .exact asA hW hr q hq hz
 .obtain⟨j,rfl⟩:=ce h1
  exact asB hW hr q hq j hz jb
theorem pY.fr{σ σ':St}{rb bc n:Nat}{o:Option (Nat×Nat)}{c:Cap}{f:Int->Rat}(hW:WF σ)(hf:Fr σ σ')(hr:pY σ.h rb bc n o c f):pY σ'.h rb bc n o c f:=
 ⟨hf.get hW hr.r,hf.get hW hr.c,hr.pl,hr.rd,hr.ne⟩
def u1:1<=256^uK:=cY jj
def acT(t:dJ)(p:Int×Rat)(c:Int):lJ (t++[p]) c=lJ t c+if c=p.1 then p.2 else 0:=by
 induction t with
 |nil=>
  show(if p.1=c then p.2 else 0)+0=0+if c=p.1 then p.2 else 0
  by_cases h:p.1=c
  .rw[ae h,ae h.symm];grind
  .rw[ab h,ab (Ne.symm h)]
 |cons r t ih=>
  show(if r.1=c then r.2 else 0)+lJ (t++[p]) c=(if r.1=c then r.2 else 0)+lJ t c+_
  rw[ih];grind
def YF(f:Int->Rat)(t:dJ)(u:Rat)(c:Int):Rat:=f c+lJ t c*u
def aaI(f:Int->Rat)(u:Rat):YF f [] u=f:=by funext c;show f c+0*u=f c;grind
def VJ(f:Int->Rat)(t:dJ)(p:Int×Rat)(u:Rat):Si (YF f t u) p.1 (p.2*u)=YF f (t++[p]) u:=by funext c;unfold Si YF;rw[acT];split<;>grind
theorem take_snoc{α:Type}[Inhabited α]{t:List α}{j:Nat}(h:j<t.length):t.take (j+1)=t.take j++[ix t j]:=by rw[bD h]
theorem fK{α:Type}[Inhabited α]{t:List α}{j:Nat}(h:j<t.length):ix t j∈t:=by rw[fJ h];exact List.getElem_mem h
def aaJ{σ0 σ:St}(hW0:WF σ0)(hf:Fr σ0 σ){rb bc n:Nat}{o:Option (Nat×Nat)}{c:Cap}{f:Int->Rat}(hrb:σ0.aj<=rb)(hbc:σ0.aj<=bc)(hr:pY σ.h rb bc n o c f)
  (t:dJ) (G:B) (hG:HL σ0.h 4 G t.length λj=>yB (ix t j)) (x:Rat) (hx:Sz x) (hs:Sz (aU t)) (h0:aU t≠0) (hqz:Sz (x/aU t)){D k:Nat}(hD:Ah D) (hZ:∀c,Zk D k (f c))
  (hp:∀p∈t,(p.1=-1\/(0<=p.1/\p.1<n))/\Sz p.2/\Zk D 1 (p.2*(x/aU t))) (hk:k+t.length<=256^uK) (hn:t.length<=1000000):
  aC EN 139 [.c (.ptr rb 0),.agg (jA G (aU t)),.agg [.bool (rn x),.str (rs x),.str (rd x)]] σ λ_ σ'=>pY σ'.h rb bc n o c (YF f t (x/aU t))/\(∀c,Zk D (k+t.length) (YF f t (x/aU t) c))/\aP [rb,bc] σ σ':=by
 refine aN (jL.o _ _) jL.h ?_
 unfold jL jA
 dsimp only
 have l0:=hf.wf.lt hr.r
 have l1:=hf.wf.lt hr.c
 have hlen:=hG.len
 have hkn:=hG.kn
 have hu:FC x (aU t)=x/aU t:=by unfold FC;rw[ab h0]
 generalize x/aU t=u at*
 have hW:=hf.wf
 simp(disch:=try exact jz) only[go_sem,z3,hlen,hu,hkn]
 refine bK.st (Fr σ) (fr) λhF=>?_
 refine aF (λm tm σ'=>∃j,m=t.length-j/\j<=t.length/\Tr.ah tm 0=.c (.ptr rb 0)/\Tr.ah tm 6=.c (.ptr (σ.aj+1+1) 0)/\Tr.ah tm 18=.c G/\Tr.ah tm 19=.c (.int .i64 (.ofNat t.length))/\Tr.ah tm 20=.c (.int .i64 (.ofNat j))
  /\σ'.h (σ.aj+1+1)=some ⟨[.bool (rn u),.str (rs u),.str (rd u)],none⟩/\pY σ'.h rb bc n o c (YF f (t.take j) u)/\(∀c,Zk D (k+j) (YF f (t.take j) u c))/\aP [rb,bc] σ σ'/\σ.aj+3<=σ'.aj) t.length ?_ ?_
 .refine⟨0,jb,jb,?_⟩
  simp(disch:=try exact jz) only[go_sem,z3,ap,cE,aaI]
  exact⟨hr.fr hf.wf hF,hZ,hF.ex _,jb⟩
 .rintro m tm σ' ⟨j,rfl,hj,t0,t6,rP,t19,t20,hq,hr',hZ',hf',hnx⟩
  simp(disch:=try exact jz) only[go_sem,z3,t0,t6,rP,t19,t20]
  refine aJ (λhlt=>?_) (λhlt=>?_)
  .obtain⟨b,o',c',rfl,hld⟩:=hG.pos jb
   have hld:=hld j hlt
   have hb0:=hW0.dw hld
   have hld:=hf'.ld hf.wf (by simp;omega) (hf.ld hW0 hld)
   have hpp:=hp _ (fK hlt)
   unfold yB at hld
   have hb:=hf'.wf.dw hld
   have hsn:=VJ f (t.take j) (ix t j) u
   rw[<-take_snoc hlt]at hsn
   generalize ix t j=p at*
   obtain⟨hp1,hp2,hp3⟩:=hpp
   simp(disch:=try exact jz) only[go_sem,z3,t0,t6,rP,t19,t20,hld,ak hq]
   refine aC.st (Fr σ') (by have hW':=hf'.wf;exact fr) λhF=>?_
   refine(amF hF.wf (hr'.fr hf'.wf hF) _ (hp3.sz hD u1) _ ((hZ' _).sz hD (ag jb hk)) hp1).mono ?_
   rintro _ σ2 ⟨hr2,hf2⟩
   have hf3:aP [rb,bc] σ' σ2:=aP.trans (hF.ex _) hf2
   have hl2:σ'.aj+1<=σ2.aj:=hf2.le
   have hle:=hf'.le
   simp(disch:=try exact jz) only[go_sem,z3,t0,t6,rP,t19,t20]
   refine⟨t.length-(j+1),jb,j+1,rfl,jb,rfl,hf3.get hf'.wf (by simp;omega) hq,hsn▸hr2,λc=>?_,hf'.trans hf3,jb⟩
   rw[<-hsn]
   refine(hZ' c).add (l:=1) ?_
   split
   .exact hp3
   .exact Zk.zero
  .have:j=t.length:=jb
   subst this
   rw[bX]at hr' hZ'
   simp(disch:=try exact jz) only[go_sem,z3,t0,t6,rP,t19,t20]
   exact⟨hr',hZ',hf'⟩
def F8:fP->Int->Rat
 |[],_=>0
 |t::l,c=>lJ t c+F8 l c
def bZ:fP->Nat
 |[]=>0
 |t::l=>t.length+bZ l
def acU(l:fP)(t:dJ)(c:Int):F8 (l++[t]) c=F8 l c+lJ t c:=by
 induction l with
 |nil=>show lJ t c+0=0+lJ t c;grind
 |cons u l ih=>show lJ u c+F8 (l++[t]) c=lJ u c+F8 l c+lJ t c;rw[ih];grind
def MF(l:fP)(t:dJ):bZ (l++[t])=bZ l+t.length:=by
 induction l with
 |nil=>show t.length+0=0+t.length;omega
 |cons u l ih=>show u.length+bZ (l++[t])=u.length+bZ l+t.length;rw[ih];omega
def MG(l:fP):∀j,bZ (l.take j)<=bZ l:=by
 induction l with
 |nil=>intro j;simp
 |cons u l ih=>
  intro j
  cases j with
  |zero=>simp[bZ]
  |succ j=>rw[fo];have:=ih j;unfold bZ;omega
def MH(l:fP){j:Nat}(h:j<l.length):bZ (l.take j)+(ix l j).length<=bZ l:=by rw[<-MF,<-take_snoc h];exact MG _ _
theorem Mc(l:fP):∀m,dH l m<=l.length:=by
 induction l with
 |nil=>intro m;exact cI 0
 |cons t l ih=>intro m;unfold dH;have:=ih (m-aU t);rw[bL];split<;>omega
def Sj{α:Type}[Inhabited α](a:α)(l:List α):ix (a::l) 0=a:=rfl
def JE{α:Type}[Inhabited α](a:α)(l:List α)(j:Nat):ix (a::l) (j+1)=ix l j:=rfl
def Ib(l:fP)(c:Int):∀m,fO l m c=F8 (l.take (dH l m)) c+if dH l m<l.length then lJ (ix l (dH l m)) c*(jf l m/aU (ix l (dH l m)))else 0:=by
 induction l with
 |nil=>intro m;show(0:Rat)=0+_;simp;grind
 |cons t l ih=>
  intro m
  unfold fO dH jf
  by_cases h:m<aU t
  .simp only[ae h]
   rw[ae kc,Sj]
   show _=0+_
   grind
  .simp only[ab h]
   rw[ih,fo,JE]
   simp only[bL,Nat.add_lt_add_iff_right]
   show _=lJ t c+F8 _ c+_
   grind
def C9(l:fP)(c:Int)(r:Rat):∀m,jy l m r c=if dH l m<l.length then lJ (ix l (dH l m)) c*(r/aU (ix l (dH l m)))else 0:=by
 induction l with
 |nil=>intro m;rfl
 |cons t l ih=>
  intro m
  unfold jy dH
  by_cases h:m<aU t
  .simp only[ae h]
   rw[ae kc,Sj]
  .simp only[ab h]
   rw[ih,JE]
   simp only[bL,Nat.add_lt_add_iff_right]
def acV(l:fP):∀m,lK l m=if dH l m<l.length then some (aU (ix l (dH l m))-jf l m)else none:=by
 induction l with
 |nil=>intro m;rfl
 |cons t l ih=>
  intro m
  unfold lK dH jf
  by_cases h:m<aU t
  .simp only[ae h]
   rw[ae kc,Sj]
  .simp only[ab h]
   rw[ih,JE]
   simp only[bL,Nat.add_lt_add_iff_right]
theorem Sr(l:fP):∀m,0<=m->0<=jf l m/\(dH l m<l.length->jf l m<aU (ix l (dH l m))):=by
 induction l with
 |nil=>intro m h;exact⟨h,λh=>by simp[dH]at h⟩
 |cons t l ih=>
  intro m h
  unfold dH jf
  by_cases h2:m<aU t
  .simp only[ae h2];exact⟨h,λ_=>h2⟩
  .simp only[ab h2]
   obtain⟨a,b⟩:=ih (m-aU t) kd
   exact⟨a,λh=>by rw[JE];exact b (by simp only[bL]at h;omega)⟩
theorem MI(l:fP):∀m,jf l m=m-Ae l (dH l m):=by
 induction l with
 |nil=>intro m;show m=m-0;grind
 |cons t l ih=>
  intro m
  unfold dH jf
  by_cases h:m<aU t
  .simp only[ae h];show m=m-0;grind
  .simp only[ab h]
   rw[ih]
   show _=m-(aU t+Ae l _)
   grind
structure MJ(D n:Nat)(l:fP):Prop where
 len:l.length<=1000000
 tl:∀t∈l,t.length<=1000000
 st:∀t∈l,Sz (aU t)
 id:∀t∈l,∀p∈t,p.1=-1\/(0<=p.1/\p.1<n)
 sp:∀t∈l,∀p∈t,Sz p.2
 zp:∀t∈l,∀p∈t,Zk D 1 p.2
structure MN(D:Nat)(l:fP)(m x:Rat):Prop where
 cum:∀k,k<=l.length->Sz (m-Ae l k)
 nn:0<=m
 sx:Sz x
 q:dH l m<l.length->Sz (x/aU (ix l (dH l m)))
 z:dH l m<l.length->∀p∈ix l (dH l m),Zk D 1 (p.2*(x/aU (ix l (dH l m))))
def MN.ne{D:Nat}{l:fP}{m x:Rat}(h:MN D l m x)(hf:dH l m<l.length):aU (ix l (dH l m))≠0:=by have h1:=Sr l m h.nn;have h2:=h1.2 hf;intro e;rw[e]at h2;have:=h1.1;grind
def F7.tier{h:Tr Bk}{v:B}{l:fP}(hl:F7 h v l){j:Nat}(hj:j<l.length):∃b o c G,v=.sl b o l.length c/\ld h b (o+j*4) 4 true=some (.agg (jA G (aU (ix l j))))/\HL h 4 G (ix l j).length (λi=>yB (ix (ix l j) i))/\b<0+b+1:=by obtain⟨G,hG,-,hP⟩:=hl;obtain⟨b,o,c,e,hld⟩:=hG.pos jb;exact⟨b,o,c,G j,e,hld j hj,hP j hj,jb⟩
def aaK{σ0 σ:St}(hW0:WF σ0)(hf:Fr σ0 σ){rb bc n:Nat}{o:Option (Nat×Nat)}{c:Cap}{f:Int->Rat}(hrb:σ0.aj<=rb)(hbc:σ0.aj<=bc)(hr:pY σ.h rb bc n o c f)
  (l:fP) (v:B) (hL:F7 σ0.h v l) (m x:Rat){D k:Nat}(hD:Ah D) (hl:MJ D n l) (hs:MN D l m x) (hm:Sz m) (hZ:∀c,Zk D k (f c)) (hk:k+bZ l<=256^uK):
  aC EN 141 [.c v,.agg [.bool (rn m),.str (rs m),.str (rd m)],.agg [.bool (rn x),.str (rs x),.str (rd x)],.c (.ptr rb 0)] σ λ_ σ'=>pY σ'.h rb bc n o c (λc=>f c+jy l m x c)/\(∀c,Zk D (k+bZ l) (f c+jy l m x c))/\aP [rb,bc] σ σ':=by
 refine aN (jO.o _ _) jO.h ?_
 unfold jO
 dsimp only
 have l0:=hf.wf.lt hr.r
 have l1:=hf.wf.lt hr.c
 have hlen:=hL.choose_spec.1.len
 simp(disch:=try exact jz) only[go_sem,z3,hlen]
 have hF:=Fr.new (Fr.new (Fr.refl hf.wf) ⟨[.bool (rn m),.str (rs m),.str (rd m)],none⟩) ⟨[.bool (rn x),.str (rs x),.str (rd x)],none⟩
 refine(RZ l v m _ hF.wf (hL.fr hW0 (hf.trans hF)) (λi hi=>hl.st _ (fK hi)) hs.cum hl.len).mono ?_
 rintro _ σ2 ⟨rfl,hf2⟩
 have hF2:=hF.trans hf2
 have hp2:σ2.h (σ.aj+1)=some ⟨[.bool (rn x),.str (rs x),.str (rd x)],none⟩:=hf2.get hF.wf (aB _ _ _)
 have hl2:σ.aj+1+1<=σ2.aj:=hf2.le
 simp(disch:=try exact jz) only[go_sem,z3,hlen]
 refine aJ (λhlt=>?_) (λhlt=>?_)
 .obtain⟨b,o',c',G,rfl,hld,hP,-⟩:=hL.tier hlt
  have hb0:=hW0.dw hld
  have hld:=hF2.ld hf.wf (hf.ld hW0 hld)
  unfold jA at hld
  have hb:=hF2.wf.dw hld
  have I8:=fK hlt
  simp(disch:=try exact jz) only[go_sem,z3,hld,ak hp2,hP.kn]
  refine aC.st (Fr σ2) (by have hW2:=hF2.wf;exact fr) λhF3=>?_
  have wK:=hF2.trans hF3
  have hnp:=MH l hlt
  refine(aaJ hW0 (hf.trans wK) hrb hbc (hr.fr hf.wf wK) (ix l (dH l m)) G hP x hs.sx (hl.st _ I8) (hs.ne hlt) (hs.q hlt) hD hZ (λp hp=>⟨hl.id _ I8 p hp,hl.sp _ I8 p hp,hs.z hlt p hp⟩) (ag jb hk) (hl.tl _ I8)).mono ?_
  rintro _ σ4 ⟨hr4,hZ4,hf4⟩
  have e:YF f (ix l (dH l m)) (x/aU (ix l (dH l m)))=λc=>f c+jy l m x c:=by funext c;rw[C9,ae hlt];rfl
  rw[e]at hr4 hZ4
  simp(disch:=try exact jz) only[go_sem,z3]
  exact⟨hr4,λc=>(hZ4 c).mono jb,(wK.ex _).trans hf4⟩
 .have e:(λc=>f c+jy l m x c)=f:=by funext c;rw[C9,ab hlt,cF]
  have e2:∀c,f c+jy l m x c=f c:=λc=>bN e c
  simp(disch:=try exact jz) only[go_sem,z3,e,e2]
  have hr2:=hr.fr hf.wf hF2
  have b0:=hF2.wf.lt hr2.r
  have b1:=hF2.wf.lt hr2.c
  refine⟨hr2.set2 jb jb,λc=>(hZ c).mono jb,Fr.ex (by have hW2:=hF2.wf;exact fr) _⟩
def amG{σ:St}(hW:WF σ)(l:fP)(v:B)(hL:F7 σ.h v l)(m:Rat)(hl:l.length<=1000000)(hst:∀t∈l,Sz (aU t))(hs:∀k,k<=l.length->Sz (m-Ae l k)):
  aC EN 182 [.c v,.agg [.bool (rn m),.str (rs m),.str (rd m)]] σ λr σ'=>r=(match lK l m with|some g=>.aV (.agg [.bool (rn g),.str (rs g),.str (rd g)]) (.aV (.c (.bool true)) .tnil)|none=>.aV (.agg [.bool (rn 0),.str (rs 0),.str (rd 0)]) (.aV (.c (.bool false)) .tnil))/\Fr σ σ':=by
 refine aN (lC.o _ _) lC.h ?_
 unfold lC
 dsimp only
 have hlen:=hL.choose_spec.1.len
 simp(disch:=try exact jz) only[go_sem,z3,hlen]
 have hF:=Fr.new (Fr.new (Fr.refl hW) ⟨[.bool (rn m),.str (rs m),.str (rd m)],none⟩) ⟨[.bool (rn 0),.str (rs 0),.str (rd 0)],none⟩
 refine(RZ l v m _ hF.wf (hL.fr hW hF) (λi hi=>hst _ (fK hi)) hs hl).mono ?_
 rintro _ σ2 ⟨rfl,hf2⟩
 have hF2:=hF.trans hf2
 have hp2:σ2.h (σ.aj+1)=some ⟨[.bool (rn 0),.str (rs 0),.str (rd 0)],none⟩:=hf2.get hF.wf (aB _ _ _)
 have hl2:σ.aj+1+1<=σ2.aj:=hf2.le
 have hfl:=Mc l m
 rw[acV]
 simp(disch:=try exact jz) only[go_sem,z3,hlen]
 refine aJ (λhlt=>?_) (λhlt=>?_)
 .rw[ab jb]
  simp(disch:=try exact jz) only[go_sem,z3,ak hp2,aI hp2,hp2]
  exact fr
 .have hlt:dH l m<l.length:=jb
  rw[ae hlt]
  obtain⟨b,o',c',G,rfl,hld,hP,-⟩:=hL.tier hlt
  have hld:=hF2.ld hW hld
  unfold jA at hld
  have hb:=hF2.wf.dw hld
  have I8:=hst _ (fK hlt)
  have hlm:Sz (jf l m):=by rw[MI];exact hs _ hfl
  simp(disch:=try exact jz) only[go_sem,z3,hld,Ba hld,ak hp2,aI hp2,hp2]
  exact fr
def Ic(f:Int->Rat)(l:fP)(c:Int):Rat:=f c+F8 l c
def ags(f:Int->Rat):Ic f []=f:=by funext c;show f c+0=f c;grind
def acW(f:Int->Rat)(l:fP)(t:dJ):YF (Ic f l) t 1=Ic f (l++[t]):=by funext c;unfold YF Ic;rw[acU];grind
def amH{σ0 σ:St}(hW0:WF σ0)(hf:Fr σ0 σ){rb bc n:Nat}{o:Option (Nat×Nat)}{c:Cap}{f:Int->Rat}(hrb:σ0.aj<=rb)(hbc:σ0.aj<=bc)(hr:pY σ.h rb bc n o c f)
  (l:fP) (v:B) (hL:F7 σ0.h v l) (m:Rat){D k:Nat}(hD:Ah D) (hl:MJ D n l) (hs:MN D l m (jf l m)) (hm:Sz m) (hZ:∀c,Zk D k (f c)) (hk:k+bZ l<=256^uK) (hpos:0<l.length):
  aC EN 96 [.c v,.agg [.bool (rn m),.str (rs m),.str (rd m)],.c (.ptr rb 0)] σ λ_ σ'=>pY σ'.h rb bc n o c (λc=>f c+fO l m c)/\(∀c,Zk D (k+bZ l) (f c+fO l m c))/\aP [rb,bc] σ σ':=by
 refine aN (kX.o _ _) kX.h ?_
 unfold kX
 dsimp only
 have l0:=hf.wf.lt hr.r
 have l1:=hf.wf.lt hr.c
 have hlen:=hL.choose_spec.1.len
 simp(disch:=try exact jz) only[go_sem,z3,hlen]
 have hF:=Fr.new (Fr.refl hf.wf) ⟨[.bool (rn m),.str (rs m),.str (rd m)],none⟩
 refine(RZ l v m _ hF.wf (hL.fr hW0 (hf.trans hF)) (λi hi=>hl.st _ (fK hi)) hs.cum hl.len).mono ?_
 rintro _ σ2 ⟨rfl,hf2⟩
 have hF2:=hF.trans hf2
 have hl2:σ.aj+1<=σ2.aj:=hf2.le
 have hfl:=Mc l m
 have hll:=hl.len
 obtain⟨G,hG,hcap,hP⟩:=hL
 obtain⟨b,o',c0,rfl,tK⟩:=hG.pos hpos
 obtain⟨v',hv',-,⟨h0,-⟩|⟨b2,o2,c2,c',h2,rfl⟩⟩:=aoK hcap (.inr ⟨b,o',c0,rfl,hpos⟩) hfl 4
 .omega
 cases h2
 simp(disch:=try exact jz) only[go_sem,z3,hlen,hv']
 refine bK.st (Fr σ2) (by have hW2:=hF2.wf;exact fr) λhF3=>?_
 have wK:=hF2.trans hF3
 refine aF (λq tm σ'=>∃j,q=dH l m-j/\j<=dH l m/\Tr.ah tm 0=.c (.sl b o' l.length c0)/\Tr.ah tm 2=.c (.ptr rb 0)/\Tr.ah tm 6=.c (.int .i64 (.ofNat (dH l m)))/\Tr.ah tm 7=.c (.ptr σ2.aj 0)
  /\Tr.ah tm 20=.c (.sl b o' (dH l m) c')/\Tr.ah tm 21=.c (.int .i64 (.ofNat (dH l m)))/\Tr.ah tm 22=.c (.int .i64 (.ofNat j))
  /\σ'.h σ2.aj=some ⟨[.bool (rn (jf l m)),.str (rs (jf l m)),.str (rd (jf l m))],none⟩/\pY σ'.h rb bc n o c (Ic f (l.take j))/\(∀c,Zk D (k+bZ (l.take j)) (Ic f (l.take j) c))/\aP [rb,bc] σ σ'/\σ2.aj+1<=σ'.aj) (dH l m) ?_ ?_
 .refine⟨0,jb,jb,?_⟩
  simp(disch:=try exact jz) only[go_sem,z3,ap,cE,ags]
  exact⟨hr.fr hf.wf wK,λc=>(hZ c).mono jb,wK.ex _,jp⟩
 .rintro q tm σ' ⟨j,rfl,hj,t0,t2,t6,t7,t20,t21,t22,hq,hr',hZ',hf',hnx⟩
  simp(disch:=try exact jz) only[go_sem,z3,t0,t2,t6,t7,t20,t21,t22]
  refine aJ (λhlt=>?_) (λhlt=>?_)
  .have hjl:j<l.length:=jb
   have I8:=fK hjl
   have Dc:=hP j hjl
   have htl:=hl.tl _ I8
   have hpl:=Dc.len
   have agt:=tK j hjl
   have hb0:=hW0.dw agt
   have hld:=hf'.ld hf.wf (by simp;omega) (hf.ld hW0 agt)
   unfold jA at hld
   have hb:=hf'.wf.dw hld
   simp(disch:=try exact jz) only[go_sem,z3,t0,t2,t6,t7,t20,t21,t22,hld,Dc.kn,hpl]
   refine bK.st (Fr σ') (by have hW2:=hf'.wf;exact fr) λgZ=>?_
   refine aF (λq tm σ3=>∃i,q=(ix l j).length-i/\i<=(ix l j).length/\Tr.ah tm 0=.c (.sl b o' l.length c0)/\Tr.ah tm 2=.c (.ptr rb 0)/\Tr.ah tm 6=.c (.int .i64 (.ofNat (dH l m)))/\Tr.ah tm 7=.c (.ptr σ2.aj 0)
    /\Tr.ah tm 20=.c (.sl b o' (dH l m) c')/\Tr.ah tm 21=.c (.int .i64 (.ofNat (dH l m)))/\Tr.ah tm 22=.c (.int .i64 (.ofNat j))/\Tr.ah tm 27=.c (G j)/\Tr.ah tm 28=.c (.int .i64 (.ofNat (ix l j).length))/\Tr.ah tm 29=.c (.int .i64 (.ofNat i))
    /\pY σ3.h rb bc n o c (YF (Ic f (l.take j)) ((ix l j).take i) 1)/\(∀c,Zk D (k+bZ (l.take j)+i) (YF (Ic f (l.take j)) ((ix l j).take i) 1 c))/\aP [rb,bc] σ' σ3) (ix l j).length ?_ ?_
   .refine⟨0,jb,jb,?_⟩
    simp(disch:=try exact jz) only[go_sem,z3,t0,t2,t6,t7,t20,t21,t22,ap,cE,aaI]
    exact⟨hr'.fr hf'.wf gZ,hZ',gZ.ex _⟩
   .rintro q Uz σ3 ⟨i,rfl,hi,t0,t2,t6,t7,t20,t21,t22,t27,t28,t29,hr3,hZ3,hf3⟩
    simp(disch:=try exact jz) only[go_sem,z3,t0,t2,t6,t7,t20,t21,t22,t27,t28,t29]
    refine aJ (λYG=>?_) (λYG=>?_)
    .obtain⟨b3,o3,c3,e3,MO⟩:=Dc.pos jb
     rw[e3]at t27
     have MO:=MO i YG
     have hb3:=hW0.dw MO
     have hlx:=(hf'.trans hf3).ld hf.wf (by simp;omega) (hf.ld hW0 MO)
     unfold yB at hlx
     have hb4:=hf3.wf.dw hlx
     have hsn:=VJ (Ic f (l.take j)) ((ix l j).take i) (ix (ix l j) i) 1
     rw[<-take_snoc YG,Rat.mul_one]at hsn
     have hpm:=fK YG
     have hid:=hl.id _ I8 _ hpm
     have hsp:=hl.sp _ I8 _ hpm
     have hzp:=hl.zp _ I8 _ hpm
     have hnp:=MH l hjl
     generalize ix (ix l j) i=p at*
     simp(disch:=try exact jz) only[go_sem,z3,t0,t2,t6,t7,t20,t21,t22,t27,t28,t29,hlx]
     refine aC.st (Fr σ3) (by have hW2:=hf3.wf;exact fr) λkH=>?_
     refine(amF kH.wf (hr3.fr hf3.wf kH) _ hsp _ ((hZ3 _).sz hD (ag jb hk)) hid).mono ?_
     rintro _ σ5 ⟨hr5,hf5⟩
     rw[hsn]at hr5
     simp(disch:=try exact jz) only[go_sem,z3,t0,t2,t6,t7,t20,t21,t22,t27,t28,t29]
     refine⟨(ix l j).length-(i+1),jb,i+1,rfl,jb,e3.symm▸rfl,rfl,hr5,λc=>?_,hf3.trans ((kH.ex _).trans hf5)⟩
     rw[<-hsn]
     refine(hZ3 c).add (l:=1) ?_
     split
     .exact hzp
     .exact Zk.zero
    .have:i=(ix l j).length:=jb
     subst this
     rw[bX,acW,<-take_snoc hjl]at hr3 hZ3
     have hnp:=MF (l.take j) (ix l j)
     rw[<-take_snoc hjl]at hnp
     have hfx:=hf3.le
     have hqx:=hf3.get hf'.wf (show¬σ2.aj∈[rb,bc] by simp;omega) hq
     simp(disch:=try exact jz) only[go_sem,z3,t0,t2,t6,t7,t20,t21,t22,t27,t28,t29]
     exact⟨dH l m-(j+1),jb,j+1,rfl,jb,rfl,hqx,hr3,λc=>(hZ3 c).mono jb,hf'.trans hf3,jb⟩
  .have:j=dH l m:=jb
   subst this
   simp(disch:=try exact jz) only[go_sem,z3,t0,t2,t6,t7,t20,t21,t22]
   refine aJ (λhlf=>?_) (λhlf=>?_)
   .have I8:=fK hlf
    have agt:=tK _ hlf
    have hb0:=hW0.dw agt
    have hld:=hf'.ld hf.wf (by simp;omega) (hf.ld hW0 agt)
    unfold jA at hld
    have hb:=hf'.wf.dw hld
    have hnp:=MH l hlf
    simp(disch:=try exact jz) only[go_sem,z3,t0,t2,t6,t7,t20,t21,t22,hld,ak hq,(hP _ hlf).kn]
    refine(aaJ hW0 (hf'.to hf (by simp;omega)) hrb hbc hr' (ix l (dH l m)) (G (dH l m)) (hP _ hlf) (jf l m) hs.sx (hl.st _ I8) (hs.ne hlf) (hs.q hlf) hD hZ' (λp hp=>⟨hl.id _ I8 p hp,hl.sp _ I8 p hp,hs.z hlf p hp⟩) (ag jb hk) (hl.tl _ I8)).mono ?_
    rintro _ σ4 ⟨hr4,hZ4,hf5⟩
    have e:YF (Ic f (l.take (dH l m))) (ix l (dH l m)) (jf l m/aU (ix l (dH l m)))=λc=>f c+fO l m c:=by funext c;rw[Ib,ae hlf];unfold YF Ic;grind
    rw[e]at hr4 hZ4
    simp(disch:=try exact jz) only[go_sem,z3]
    exact⟨hr4,λc=>(hZ4 c).mono jb,hf'.trans hf5⟩
   .have e:Ic f (l.take (dH l m))=λc=>f c+fO l m c:=by funext c;rw[Ib,ab hlf];unfold Ic;grind
    have hnp:=MG l (dH l m)
    rw[e]at hr' hZ'
    simp(disch:=try exact jz) only[go_sem,z3]
    exact⟨hr',λc=>(hZ' c).mono jb,hf'⟩
theorem lN{α:Type}(l:List α)(a:α)(f:α->Rat):aG (l++[a]) f=aG l f+f a:=by
 induction l with
 |nil=>show f a+0=0+f a;grind
 |cons b l ih=>show f b+aG (l++[a]) f=f b+aG l f+f a;rw[ih];grind
def SA{α:Type}{D k:Nat}{f:α->Rat}:∀{l:List α},(∀a∈l,Zk D k (f a))->Zk D (k*l.length) (aG l f)
 |[],_=>Zk.zero
 |a::l,h=>by have:=(h a kc).add (SA (l:=l) λb hb=>h b (by simp[hb]));rw[bL,Nat.mul_succ,fa];exact this
def agu{α:Type}{l:List α}{a:α}{j:Nat}(h:a∈l.take j):a∈l:=du h
def Oh(ms:List Nat)(i:Nat):B:=.int .i64 (.ofNat (ix ms i))
def F9{σ:St}(hW:WF σ){n:Nat}(ms:List Nat)(mv lv rv:B)(f:Nat->Rat)(hm:HC σ.h mv ms.length (Oh ms))(hv:HL σ.h 3 rv n λi=>gK (f i))(hms:∀i∈ms,i<n)(hl:ms.length<=1000000)
  {D k:Nat}(hD:Ah D) (hZ:∀i,i<n->Zk D k (f i)) (hk:k*(ms.length+1)<=256^uK):
  aC EN 97 [.agg [mv,lv],.c rv] σ λr σ'=>r=.agg [.bool (rn (aG ms f)),.str (rs (aG ms f)),.str (rd (aG ms f))]/\Fr σ σ':=by
 refine aN (kY.o _ _) kY.h ?_
 unfold kY
 dsimp only
 have hlen:=hm.len
 simp(disch:=try exact jz) only[go_sem,z3,hlen,hm.kn]
 refine bK.st (Fr σ) (fr) λhF=>?_
 refine aF (λq tm σ'=>∃j,q=ms.length-j/\j<=ms.length/\Tr.ah tm 1=.c rv/\Tr.ah tm 4=.c (.ptr (σ.aj+1) 0)/\Tr.ah tm 5=.c (.ptr (σ.aj+1+1) 0)/\Tr.ah tm 10=.c mv/\Tr.ah tm 11=.c (.int .i64 (.ofNat ms.length))/\Tr.ah tm 12=.c (.int .i64 (.ofNat j))
  /\σ'.h (σ.aj+1)=some ⟨[.bool (rn 0),.str (rs 0),.str (rd 0)],none⟩/\σ'.h (σ.aj+1+1)=some ⟨[.bool (rn (aG (ms.take j) f)),.str (rs (aG (ms.take j) f)),.str (rd (aG (ms.take j) f))],none⟩/\Fr σ σ'/\σ.aj+3<=σ'.aj) ms.length ?_ ?_
 .refine⟨0,jb,jb,?_⟩
  simp(disch:=try exact jz) only[go_sem,z3,ap,cE,show aG ([]:List Nat) f=0 from rfl]
  exact⟨hF,jb⟩
 .rintro q tm σ' ⟨j,rfl,hj,t1,t4,t5,t10,t11,t12,hq1,hq2,hf',hnx⟩
  simp(disch:=try exact jz) only[go_sem,z3,t1,t4,t5,t10,t11,t12]
  refine aJ (λhlt=>?_) (λhlt=>?_)
  .obtain⟨b,o,c,rfl,hld⟩:=hm.pos jb
   have hld:=hf'.ld hW (hld j hlt)
   have hn:=hms _ (fK hlt)
   obtain⟨b2,o2,c2,rfl,Dw⟩:=hv.pos jb
   have Dw:=hf'.ld hW (Dw _ hn)
   have hb2:=hf'.wf.dw Dw
   unfold Oh at hld
   unfold gK at Dw
   have hsn:=lN (ms.take j) (ix ms j) f
   rw[<-take_snoc hlt]at hsn
   have hz1:Sz (f (ix ms j)):=(hZ _ hn).sz hD (ag (gp _ jb) hk)
   have hz2:Sz (aG (ms.take j) f):=(SA λa ha=>hZ a (hms a (agu ha))).sz hD (ag (cf _ (by rw[cW];omega)) hk)
   simp(disch:=try exact jz) only[go_sem,z3,t1,t4,t5,t10,t11,t12,hld,Dw,ak hq2,hq1,hq2,aI hq2,<-hsn]
   refine⟨ms.length-(j+1),jb,j+1,rfl,jb,rfl,rfl,?_,jb⟩
   exact fr
  .have:j=ms.length:=jb
   subst this
   rw[bX]at hq2
   simp(disch:=try exact jz) only[go_sem,z3,t1,t4,t5,t10,t11,t12,ak hq2,hq1,aI hq1]
   exact fr
structure Ie(h:Tr Bk)(rv pv:B)(e:dV):Prop where
 rk:F7 h rv e.rk
 ps:∃Gm Gl:Nat->B,HL h 2 pv e.ps.length (λi=>[Gm i,Gl i])/\∀i,i<e.ps.length->HC h (Gm i) (ix e.ps i).1.length (Oh (ix e.ps i).1)/\F7 h (Gl i) (ix e.ps i).2
theorem Ie.fr{σ σ':St}(hW:WF σ)(hf:Fr σ σ'){rv pv:B}{e:dV}(h:Ie σ.h rv pv e):Ie σ'.h rv pv e:=by obtain⟨h1,Gm,Gl,h2,h3⟩:=h;exact⟨h1.fr hW hf,Gm,Gl,h2.fr hW hf,λi hi=>⟨(h3 i hi).1.fr hW hf,(h3 i hi).2.fr hW hf⟩⟩
def je(n:Nat)(rv pv:B)(t:Rat):List B:=[.int .i64 (.ofNat n),rv,pv,.bool (rn t),.str (rs t),.str (rd t)]
def F7.kn{h:Tr Bk}{v:B}{l:fP}(hl:F7 h v l):v.kn=true:=hl.choose_spec.1.kn
def Ie.Ua{h:Tr Bk}{rv pv:B}{e:dV}(hl:Ie h rv pv e):pv.kn=true:=by obtain⟨_,Gm,Gl,h2,h3⟩:=hl;exact h2.kn
structure asC(σ σ':St)(r:V)(n:Nat)(f:Nat->Rat)(b:Nat):Prop where
 r:r=.c (.sl b 0 n (.ex n))
 c:σ'.h b=some ⟨bU n f,none⟩
 b:σ.aj<=b
def JF{σ:St}(hW:WF σ){n:Nat}{rv pv:B}(t:Rat)(e:dV)(hL:Ie σ.h rv pv e)(m:Rat){D:Nat}(hD:Ah D)(hn:n<=1000000)(hl:MJ D n e.rk)(hs:MN D e.rk m (jf e.rk m))(hm:Sz m)(hk:bZ e.rk<=256^uK)(hpos:0<e.rk.length):
  aC EN 57 [.agg (je n rv pv t),.agg [.bool (rn m),.str (rs m),.str (rd m)]] σ λr σ'=>(∃b,asC σ σ' r n (λi=>xY e m i) b)/\(∀i:Nat,Zk D (bZ e.rk) (xY e m i))/\Fr σ σ':=by
 refine aN (jG.o _ _) jG.h ?_
 unfold jG je
 dsimp only
 simp(disch:=try exact jz) only[go_sem,z3,hL.rk.kn]
 refine aC.st (Fr σ) (fr) λhF=>?_
 refine(amH (f:=λ_=>0) (k:=0) hW hF jb jb ⟨aB _ _ _,(au _ _ _ _ jb).trans (aB _ _ _),rfl,rfl,jb⟩ e.rk rv hL.rk m hD hl hs hm (λ_=>Zk.zero) jb hpos).mono ?_
 rintro _ σ2 ⟨hr2,hZ2,hf2⟩
 have hz:(λc=>(0:Rat)+fO e.rk m c)=fO e.rk m:=by funext c;grind
 have hz2:∀c,(0:Rat)+fO e.rk m c=fO e.rk m c:=λc=>by grind
 rw[hz]at hr2
 simp only[hz2,cK]at hZ2
 have h5:=hr2.r
 simp(disch:=try exact jz) only[go_sem,z3,ak h5]
 exact⟨⟨_,rfl,hr2.c,jb⟩,λi=>hZ2 i,hf2.to hF (by simp;omega)⟩
def aaM{σ:St}(hW:WF σ){n:Nat}{rv pv:B}(t:Rat)(e:dV)(hL:Ie σ.h rv pv e)(m:Rat){D:Nat}(hD:Ah D)(hn:n<=1000000)(hl:MJ D n e.rk)(hs:MN D e.rk m 1)(hm:Sz m)(hk:bZ e.rk<=256^uK):
  aC EN 140 [.agg (je n rv pv t),.agg [.bool (rn m),.str (rs m),.str (rd m)]] σ λr σ'=>(∃b,asC σ σ' r n (λi=>rts e m i) b)/\(∀i:Nat,Zk D (bZ e.rk) (rts e m i))/\Fr σ σ':=by
 refine aN (jM.o _ _) jM.h ?_
 unfold jM je
 dsimp only
 simp(disch:=try exact jz) only[go_sem,z3,hL.rk.kn]
 refine aC.st (Fr σ) (fr) λhF=>?_
 refine(aaK (f:=λ_=>0) (k:=0) hW hF jb jb ⟨aB _ _ _,(au _ _ _ _ jb).trans (aB _ _ _),rfl,rfl,jb⟩ e.rk rv hL.rk m 1 hD hl hs hm (λ_=>Zk.zero) jb).mono ?_
 rintro _ σ2 ⟨hr2,hZ2,hf2⟩
 have hz:(λc=>(0:Rat)+jy e.rk m 1 c)=jy e.rk m 1:=by funext c;grind
 have hz2:∀c,(0:Rat)+jy e.rk m 1 c=jy e.rk m 1 c:=λc=>by grind
 rw[hz]at hr2
 simp only[hz2,cK]at hZ2
 have h5:=hr2.r
 simp(disch:=try exact jz) only[go_sem,z3,ak h5]
 exact⟨⟨_,rfl,hr2.c,jb⟩,λi=>hZ2 i,hf2.to hF (by simp;omega)⟩
def aaN{σ:St}(hW:WF σ){n b:Nat}{c:Cap}{f:Nat->Rat}(hb:σ.h b=some ⟨bU n f,none⟩)(hn:n<=1000000):
  aC EN 55 [.c (.sl b 0 n c)] σ λr σ'=>(∃b' c' o',r=.c (.sl b' 0 n c')/\σ'.h b'=some ⟨bU n f,o'⟩/\plo o'=true/\Xh o'=true/\σ.aj<=b'/\b'<σ'.aj)/\Fr σ σ':=by
 refine aN (ig.o _ _) ig.h ?_
 unfold ig
 dsimp only
 have hbl:=hW.lt hb
 by_cases h0:n=0
 .subst h0
  simp(disch:=try exact jz) only[go_sem,z3,hb]
  refine⟨⟨σ.aj,_,none,rfl,aB _ _ _,rfl,rfl,jp,bO _⟩,?_⟩
  exact fr
 .simp(disch:=try exact jz) only[go_sem,z3,hb]
  refine⟨⟨σ.aj+1,_,_,rfl,aB _ _ _,rfl,rfl,jb,bO _⟩,?_⟩
  exact fr
def zF(l:List Nat)(f:Nat->Rat):Int->Rat:=λi=>if 0<=i then(if l.contains i.toNat then 0 else f i.toNat)else 0
def MP(l:List Nat)(f:Nat->Rat):zF l f (-1)=0:=ab jb
def SB(l:List Nat)(f:Nat->Rat)(i:Nat):zF l f i=if l.contains i then 0 else f i:=by unfold zF;rw[ae jb,fW]
def akT(l:List Nat)(f:Nat->Rat)(k n:Nat):bU n (aT (λi=>zF l f i) k 0)=bU n λi=>zF (l++[k]) f i:=by
 refine dI λi _=>?_;show(if i=k then 0 else zF l f i)=_;rw[SB,SB,List.contains_append];by_cases h:i=k
 .subst h;simp
 .rw[ab h];simp[h]
def flat(ps:List (List Nat×fP)):List Nat:=ps.flatMap λp=>p.1
def acX(ps:List (List Nat×fP))(p:List Nat×fP):flat (ps++[p])=flat ps++p.1:=by unfold flat;simp
def IW(e:dV)(c:Nat):(flat e.ps).contains c=pooled e c:=by
 unfold flat pooled;induction e.ps with
 |nil=>rfl
 |cons p l ih=>rw[gO,List.contains_append,List.any_cons,ih]
def agv{σ:St}(hW:WF σ){n b:Nat}{rv pv:B}(t:Rat)(e:dV)(hL:Ie σ.h rv pv e){f:Nat->Rat}(hb:σ.h b=some ⟨bU n f,none⟩){c:Cap}(hn:n<=1000000)(hp:e.ps.length<=1000000)(hm:∀p∈e.ps,p.1.length<=1000000/\∀i∈p.1,i<n):
  aC EN 95 [.agg (je n rv pv t),.c (.sl b 0 n c)] σ λr σ'=>(∃rb bc o c',r=.c (.ptr rb 0)/\pY σ'.h rb bc n o c' (zF (flat e.ps) f)/\σ.aj<=rb/\σ.aj<=bc)/\Fr σ σ':=by
 refine aN (jX.o _ _) jX.h ?_
 unfold jX je
 dsimp only
 simp(disch:=try exact jz) only[go_sem,z3]
 refine aC.st (Fr σ) (fr) λhF=>?_
 refine(aaN hF.wf (hF.get hW hb) hn).mono ?_
 rintro _ σ2 ⟨⟨bc,c',o,rfl,h2,hpl,hrd,hbc,hbc2⟩,hf2⟩
 have hF2:=hF.trans hf2
 obtain⟨-,Gm,Gl,hG,hP⟩:=hL
 have hlen:=hG.len
 have hbox:σ2.h σ.aj=some ⟨[.int .i64 (.ofNat n),rv,pv,.bool (rn t),.str (rs t),.str (rd t)],none⟩:=hf2.get hF.wf (aB _ _ _)
 have hl2:σ.aj+1<=σ2.aj:=hf2.le
 have hbc:σ.aj+1<=bc:=hbc
 simp(disch:=try exact jz) only[go_sem,z3,ak hbox,hlen,hG.kn]
 refine aF (λq tm σ'=>∃j,q=e.ps.length-j/\j<=e.ps.length/\Tr.ah tm 5=.c (.ptr σ2.aj 0)/\Tr.ah tm 15=.c pv/\Tr.ah tm 16=.c (.int .i64 (.ofNat e.ps.length))/\Tr.ah tm 17=.c (.int .i64 (.ofNat j))
  /\pY σ'.h σ2.aj bc n o c' (zF (flat (e.ps.take j)) f)/\Fr σ σ'/\σ2.aj+1<=σ'.aj) e.ps.length ?_ ?_
 .refine⟨0,jb,jb,?_⟩
  simp(disch:=try exact jz) only[go_sem,z3,ap,cE]
  refine⟨⟨?_,?_,hpl,hrd,jb⟩,?_,jp⟩
  .rw[aB,MP]
  .rw[au _ _ _ _ jb,h2]
   congr 2
  .exact fr
 .rintro q tm σ' ⟨j,rfl,hj,t5,t15,t16,t17,hr,hf',hnx⟩
  simp(disch:=try exact jz) only[go_sem,z3,t5,t15,t16,t17]
  refine aJ (λhlt=>?_) (λhlt=>?_)
  .obtain⟨b2,o2,c2,rfl,hld⟩:=hG.pos jb
   have hld:=hf'.ld hW (hld j hlt)
   have hb2:=hf'.wf.dw hld
   have Dc:=hP j hlt
   have hpl2:=Dc.1.len
   have hmj:=hm _ (fK hlt)
   have hfs:=acX (e.ps.take j) (ix e.ps j)
   rw[<-take_snoc hlt]at hfs
   generalize ix e.ps j=p at*
   simp(disch:=try exact jz) only[go_sem,z3,t5,t15,t16,t17,hld,Dc.1.kn,Dc.2.kn,hpl2]
   refine bK.st (Fr σ') (by have hW2:=hf'.wf;exact fr) λgZ=>?_
   refine aF (λq tm σ3=>∃i,q=p.1.length-i/\i<=p.1.length/\Tr.ah tm 5=.c (.ptr σ2.aj 0)/\Tr.ah tm 15=.c (.sl b2 o2 e.ps.length c2)/\Tr.ah tm 16=.c (.int .i64 (.ofNat e.ps.length))/\Tr.ah tm 17=.c (.int .i64 (.ofNat j))
    /\Tr.ah tm 22=.c (Gm j)/\Tr.ah tm 23=.c (.int .i64 (.ofNat p.1.length))/\Tr.ah tm 24=.c (.int .i64 (.ofNat i))
    /\pY σ3.h σ2.aj bc n o c' (zF (flat (e.ps.take j)++p.1.take i) f)/\Fr σ σ3/\σ2.aj+1<=σ3.aj) p.1.length ?_ ?_
   .refine⟨0,jb,jb,?_⟩
    simp(disch:=try exact jz) only[go_sem,z3,t5,t15,t16,t17,ap,cE,dc]
    exact⟨hr.fr hf'.wf gZ,hf'.trans gZ,jb⟩
   .rintro q Uz σ3 ⟨i,rfl,hi,t5,t15,t16,t17,t22,t23,t24,hr3,hf3,hn3⟩
    simp(disch:=try exact jz) only[go_sem,z3,t5,t15,t16,t17,t22,t23,t24]
    refine aJ (λYG=>?_) (λYG=>?_)
    .obtain⟨b3,o3,c3,e3,MO⟩:=Dc.1.pos jb
     rw[e3]at t22
     have MO:=hf3.ld hW (MO i YG)
     unfold Oh at MO
     have hin:=hmj.2 _ (fK YG)
     have hzs:=akT (flat (e.ps.take j)++p.1.take i) f (ix p.1 i) n
     rw[gN,<-take_snoc YG]at hzs
     have asD:=hr3.r
     have asE:=hr3.c
     have hb3:=hf3.wf.lt asE
     simp(disch:=try exact jz) only[go_sem,z3,t5,t15,t16,t17,t22,t23,t24,MO,ak asD,aI asE,hpl,hzs]
     refine⟨p.1.length-(i+1),jb,i+1,rfl,jb,e3.symm▸rfl,rfl,⟨?_,aB _ _ _,hpl,hrd,jb⟩,?_,jb⟩
     .rw[au _ _ _ _ jb,asD,MP,MP]
     .exact fr
    .have:i=p.1.length:=jb
     subst this
     rw[bX,<-hfs]at hr3
     simp(disch:=try exact jz) only[go_sem,z3,t5,t15,t16,t17,t22,t23,t24]
     exact⟨e.ps.length-(j+1),jb,j+1,rfl,jb,rfl,hr3,hf3,jb⟩
  .have:j=e.ps.length:=jb
   subst this
   rw[bX]at hr
   simp(disch:=try exact jz) only[go_sem,z3,t5,t15,t16,t17]
   exact⟨⟨_,_,_,_,rfl,hr,jb,jb⟩,hf'⟩
end Go.Proofs.Xe
