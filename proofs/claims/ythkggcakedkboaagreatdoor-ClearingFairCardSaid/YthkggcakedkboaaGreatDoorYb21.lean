import Derived.Test.YthkggcakedkboaaGreatDoorYb20
set_option linter.all false
set_option maxRecDepth 100000
namespace Go.Proofs.Xe
open Go.RowKit Go.Proofs.Ins
structure qY(h:Tr Bk)(rb bc n:Nat)(o:Option (Nat×Nat))(c:Cap)(f:Int->Rat):Prop where
 r:h rb=some ⟨[.sl bc 0 n c,.bool (rn (f (-1))),.str (rs (f (-1))),.str (rd (f (-1)))],none⟩
 c:h bc=some ⟨cZ n λi=>f i,o⟩
 pl:plo o=true
 rd:YU o=true
 ne:rb≠bc
def UE(f:Int->Rat)(k:Int)(q:Rat):Int->Rat:=λc=>f c+if c=k then q else 0
def qY.set{h:Tr Bk}{rb bc n b:Nat}{o:Option (Nat×Nat)}{c:Cap}{f:Int->Rat}(hr:qY h rb bc n o c f)(h1:rb≠b)(h2:bc≠b)(k:Bk):qY (hset h b k) rb bc n o c f:=
 ⟨by rw[au _ _ _ _ h1];exact hr.r,by rw[au _ _ _ _ h2];exact hr.c,hr.pl,hr.rd,hr.ne⟩
def qY.set2{h:Tr Bk}{rb bc n b:Nat}{o:Option (Nat×Nat)}{c:Cap}{f:Int->Rat}(hr:qY h rb bc n o c f)(h1:rb≠b)(h2:bc≠b){k k':Bk}:qY (hset (hset h b k) b k') rb bc n o c f:=(hr.set h1 h2 k).set h1 h2 k'
def avi{σ:St}(hW:WF σ){rb bc n:Nat}{o:Option (Nat×Nat)}{c:Cap}{f:Int->Rat}(hr:qY σ.h rb bc n o c f)(q:Rat)(hq:Sz q)(hz:Sz (f (-1))):
  aC EN 138 [.c (.ptr rb 0),.c (.int .i64 (.negSucc 0)),.agg [.bool (rn q),.str (rs q),.str (rd q)]] σ λ_ σ'=>qY σ'.h rb bc n o c (UE f (-1) q)/\aU [rb,bc] σ σ':=by
 refine aP (fM.o _ _) fM.h ?_
 unfold fM
 dsimp only
 obtain⟨h0,h1,hpl,hrd,hne⟩:=hr
 have l0:=hW.lt h0
 have l1:=hW.lt h1
 simp(disch:=try exact jz) only[go_sem,z3,ak h0,h0]
 refine⟨⟨?_,?_,hpl,hrd,hne⟩,?_⟩
 .rw[aA];simp[UE]
 .rw[au _ _ _ _ hne.symm,au _ _ _ _ jb,h1,dQ]
  intro i _
  unfold UE
  rw[ae jb];grind
 .repeat(first|assumption|exact aU.refl (by assumption)|exact aU.up (by assumption) kf|exact aU.up (aU.refl (by assumption)) kf|refine aU.set1 ?_ kg kf|refine aU.kM ?_ kg|refine aU.nC ?_ kg|refine aU.ou ?_ kf)
def avj{σ:St}(hW:WF σ){rb bc n:Nat}{o:Option (Nat×Nat)}{c:Cap}{f:Int->Rat}(hr:qY σ.h rb bc n o c f)(q:Rat)(hq:Sz q)(k:Nat)(hz:Sz (f k))(hk:k<n):
  aC EN 138 [.c (.ptr rb 0),.c (.int .i64 (.ofNat k)),.agg [.bool (rn q),.str (rs q),.str (rd q)]] σ λ_ σ'=>qY σ'.h rb bc n o c (UE f k q)/\aU [rb,bc] σ σ':=by
 refine aP (fM.o _ _) fM.h ?_
 unfold fM
 dsimp only
 obtain⟨h0,h1,hpl,hrd,hne⟩:=hr
 have l0:=hW.lt h0
 have l1:=hW.lt h1
 simp(disch:=try exact jz) only[go_sem,z3,ak h0,ak h1,h0,h1,hrd,hpl]
 refine⟨⟨?_,?_,hpl,hrd,hne⟩,?_⟩
 .rw[au _ _ _ _ hne,au _ _ _ _ jb,h0]
  unfold UE
  rw[ae jb,dC]
 .rw[aA]
  congr 2
  refine dQ λi _=>?_
  unfold UE aO
  by_cases e:i=k
  .rw[ab e,ab jb,e]
  .rw[ae e,ae jb,dC]
 .repeat(first|assumption|exact aU.refl (by assumption)|exact aU.up (by assumption) kf|exact aU.up (aU.refl (by assumption)) kf|refine aU.set1 ?_ kg kf|refine aU.kM ?_ kg|refine aU.nC ?_ kg|refine aU.ou ?_ kf)
def aoV{σ:St}(hW:WF σ){rb bc n:Nat}{o:Option (Nat×Nat)}{c:Cap}{f:Int->Rat}(hr:qY σ.h rb bc n o c f)(q:Rat)(hq:Sz q)(k:Int)(hz:Sz (f k))(hk:k=-1\/(0<=k/\k<n)):
  aC EN 138 [.c (.ptr rb 0),.c (.int .i64 k),.agg [.bool (rn q),.str (rs q),.str (rd q)]] σ λ_ σ'=>qY σ'.h rb bc n o c (UE f k q)/\aU [rb,bc] σ σ':=by
 rcases hk with rfl|⟨h1,h2⟩
 .exact avi hW hr q hq hz
 .obtain⟨j,rfl⟩:=ck h1
  exact avj hW hr q hq j hz jb
theorem qY.fr{σ σ':St}{rb bc n:Nat}{o:Option (Nat×Nat)}{c:Cap}{f:Int->Rat}(hW:WF σ)(hf:Fr σ σ')(hr:qY σ.h rb bc n o c f):qY σ'.h rb bc n o c f:=
 ⟨hf.get hW hr.r,hf.get hW hr.c,hr.pl,hr.rd,hr.ne⟩
def u1:1<=256^uK:=dx jj
def aeN(t:dJ)(p:Int×Rat)(c:Int):dY (t++[p]) c=dY t c+if c=p.1 then p.2 else 0:=by
 induction t with
 |nil=>
  show(if p.1=c then p.2 else 0)+0=0+if c=p.1 then p.2 else 0
  by_cases h:p.1=c
  .rw[ab h,ab h.symm];grind
  .rw[ae h,ae (Ne.symm h)]
 |cons r t ih=>
  show(if r.1=c then r.2 else 0)+dY (t++[p]) c=(if r.1=c then r.2 else 0)+dY t c+_
  rw[ih];grind
def shF(f:Int->Rat)(t:dJ)(u:Rat)(c:Int):Rat:=f c+dY t c*u
def acv(f:Int->Rat)(u:Rat):shF f [] u=f:=by funext c;show f c+0*u=f c;grind
def XI(f:Int->Rat)(t:dJ)(p:Int×Rat)(u:Rat):UE (shF f t u) p.1 (p.2*u)=shF f (t++[p]) u:=by funext c;unfold UE shF;rw[aeN];split<;>grind
theorem take_snoc{α:Type}[Inhabited α]{t:List α}{j:Nat}(h:j<t.length):t.take (j+1)=t.take j++[ix t j]:=by rw[bF h]
theorem gy{α:Type}[Inhabited α]{t:List α}{j:Nat}(h:j<t.length):ix t j∈t:=by rw[fD h];exact List.getElem_mem h
def acw{σ0 σ:St}(hW0:WF σ0)(hf:Fr σ0 σ){rb bc n:Nat}{o:Option (Nat×Nat)}{c:Cap}{f:Int->Rat}(hrb:σ0.aj<=rb)(hbc:σ0.aj<=bc)(hr:qY σ.h rb bc n o c f)
  (t:dJ) (G:B) (hG:HL σ0.h 4 G t.length λj=>zV (ix t j)) (x:Rat) (hx:Sz x) (hs:Sz (aT t)) (h0:aT t≠0) (hqz:Sz (x/aT t)){D k:Nat}(hD:Bv D) (hZ:∀c,Zk D k (f c))
  (hp:∀p∈t,(p.1=-1\/(0<=p.1/\p.1<n))/\Sz p.2/\Zk D 1 (p.2*(x/aT t))) (hk:k+t.length<=256^uK) (hn:t.length<=1000000):
  aC EN 139 [.c (.ptr rb 0),.agg (jQ G (aT t)),.agg [.bool (rn x),.str (rs x),.str (rd x)]] σ λ_ σ'=>qY σ'.h rb bc n o c (shF f t (x/aT t))/\(∀c,Zk D (k+t.length) (shF f t (x/aT t) c))/\aU [rb,bc] σ σ':=by
 refine aP (jZ.o _ _) jZ.h ?_
 unfold jZ jQ
 dsimp only
 have l0:=hf.wf.lt hr.r
 have l1:=hf.wf.lt hr.c
 have hlen:=hG.len
 have hkn:=hG.kn
 have hu:Hq x (aT t)=x/aT t:=by unfold Hq;rw[ae h0]
 generalize x/aT t=u at*
 have hW:=hf.wf
 simp(disch:=try exact jz) only[go_sem,z3,hlen,hu,hkn]
 refine bJ.st (Fr σ) (fr) λhF=>?_
 refine aF (λm tm σ'=>∃j,m=t.length-j/\j<=t.length/\Tr.ah tm 0=.c (.ptr rb 0)/\Tr.ah tm 6=.c (.ptr (σ.aj+1+1) 0)/\Tr.ah tm 18=.c G/\Tr.ah tm 19=.c (.int .i64 (.ofNat t.length))/\Tr.ah tm 20=.c (.int .i64 (.ofNat j))
  /\σ'.h (σ.aj+1+1)=some ⟨[.bool (rn u),.str (rs u),.str (rd u)],none⟩/\qY σ'.h rb bc n o c (shF f (t.take j) u)/\(∀c,Zk D (k+j) (shF f (t.take j) u c))/\aU [rb,bc] σ σ'/\σ.aj+3<=σ'.aj) t.length ?_ ?_
 .refine⟨0,jb,jb,?_⟩
  simp(disch:=try exact jz) only[go_sem,z3,am,cP,acv]
  exact⟨hr.fr hf.wf hF,hZ,hF.ex _,jb⟩
 .rintro m tm σ' ⟨j,rfl,hj,t0,t6,nJ,t19,t20,hq,hr',hZ',hf',hnx⟩
  simp(disch:=try exact jz) only[go_sem,z3,t0,t6,nJ,t19,t20]
  refine aH (λhlt=>?_) (λhlt=>?_)
  .obtain⟨b,o',c',rfl,hld⟩:=hG.pos jb
   have hld:=hld j hlt
   have hb0:=hW0.bH hld
   have hld:=hf'.ld hf.wf (by simp;omega) (hf.ld hW0 hld)
   have hpp:=hp _ (gy hlt)
   unfold zV at hld
   have hb:=hf'.wf.bH hld
   have hsn:=XI f (t.take j) (ix t j) u
   rw[<-take_snoc hlt]at hsn
   generalize ix t j=p at*
   obtain⟨hp1,hp2,hp3⟩:=hpp
   simp(disch:=try exact jz) only[go_sem,z3,t0,t6,nJ,t19,t20,hld,ak hq]
   refine aC.st (Fr σ') (by have hW':=hf'.wf;exact fr) λhF=>?_
   refine(aoV hF.wf (hr'.fr hf'.wf hF) _ (hp3.sz hD u1) _ ((hZ' _).sz hD (av jb hk)) hp1).mono ?_
   rintro _ σ2 ⟨hr2,hf2⟩
   have hf3:aU [rb,bc] σ' σ2:=aU.trans (hF.ex _) hf2
   have hl2:σ'.aj+1<=σ2.aj:=hf2.le
   have hle:=hf'.le
   simp(disch:=try exact jz) only[go_sem,z3,t0,t6,nJ,t19,t20]
   refine⟨t.length-(j+1),jb,j+1,rfl,jb,rfl,hf3.get hf'.wf (by simp;omega) hq,hsn▸hr2,λc=>?_,hf'.trans hf3,jb⟩
   rw[<-hsn]
   refine(hZ' c).add (l:=1) ?_
   split
   .exact hp3
   .exact Zk.zero
  .have:j=t.length:=jb
   subst this
   rw[ce]at hr' hZ'
   simp(disch:=try exact jz) only[go_sem,z3,t0,t6,nJ,t19,t20]
   exact⟨hr',hZ',hf'⟩
def iU:fP->Int->Rat
 |[],_=>0
 |t::l,c=>dY t c+iU l c
def dH:fP->Nat
 |[]=>0
 |t::l=>t.length+dH l
def Ee(l:fP)(t:dJ)(c:Int):iU (l++[t]) c=iU l c+dY t c:=by
 induction l with
 |nil=>show dY t c+0=0+dY t c;grind
 |cons u l ih=>show dY u c+iU (l++[t]) c=dY u c+iU l c+dY t c;rw[ih];grind
def Om(l:fP)(t:dJ):dH (l++[t])=dH l+t.length:=by
 induction l with
 |nil=>show t.length+0=0+t.length;omega
 |cons u l ih=>show u.length+dH (l++[t])=u.length+dH l+t.length;rw[ih];omega
def Oo(l:fP):∀j,dH (l.take j)<=dH l:=by
 induction l with
 |nil=>intro j;simp
 |cons u l ih=>
  intro j
  cases j with
  |zero=>simp[dH]
  |succ j=>rw[gw];have:=ih j;unfold dH;omega
def Oq(l:fP){j:Nat}(h:j<l.length):dH (l.take j)+(ix l j).length<=dH l:=by rw[<-Om,<-take_snoc h];exact Oo _ _
theorem Oe(l:fP):∀m,dP l m<=l.length:=by
 induction l with
 |nil=>intro m;exact cU 0
 |cons t l ih=>intro m;unfold dP;have:=ih (m-aT t);rw[bO];split<;>omega
def UF{α:Type}[Inhabited α](a:α)(l:List α):ix (a::l) 0=a:=rfl
def La{α:Type}[Inhabited α](a:α)(l:List α)(j:Nat):ix (a::l) (j+1)=ix l j:=rfl
def Jt(l:fP)(c:Int):∀m,fZ l m c=iU (l.take (dP l m)) c+if dP l m<l.length then dY (ix l (dP l m)) c*(jB l m/aT (ix l (dP l m)))else 0:=by
 induction l with
 |nil=>intro m;show(0:Rat)=0+_;simp;grind
 |cons t l ih=>
  intro m
  unfold fZ dP jB
  by_cases h:m<aT t
  .simp only[ab h]
   rw[ab kc,UF]
   show _=0+_
   grind
  .simp only[ae h]
   rw[ih,gw,La]
   simp only[bO,Nat.add_lt_add_iff_right]
   show _=dY t c+iU _ c+_
   grind
def Ef(l:fP)(c:Int)(r:Rat):∀m,jO l m r c=if dP l m<l.length then dY (ix l (dP l m)) c*(r/aT (ix l (dP l m)))else 0:=by
 induction l with
 |nil=>intro m;rfl
 |cons t l ih=>
  intro m
  unfold jO dP
  by_cases h:m<aT t
  .simp only[ab h]
   rw[ab kc,UF]
  .simp only[ae h]
   rw[ih,La]
   simp only[bO,Nat.add_lt_add_iff_right]
def aeO(l:fP):∀m,mG l m=if dP l m<l.length then some (aT (ix l (dP l m))-jB l m)else none:=by
 induction l with
 |nil=>intro m;rfl
 |cons t l ih=>
  intro m
  unfold mG dP jB
  by_cases h:m<aT t
  .simp only[ab h]
   rw[ab kc,UF]
  .simp only[ae h]
   rw[ih,La]
   simp only[bO,Nat.add_lt_add_iff_right]
theorem UG(l:fP):∀m,0<=m->0<=jB l m/\(dP l m<l.length->jB l m<aT (ix l (dP l m))):=by
 induction l with
 |nil=>intro m h;exact⟨h,λh=>by simp[dP]at h⟩
 |cons t l ih=>
  intro m h
  unfold dP jB
  by_cases h2:m<aT t
  .simp only[ab h2];exact⟨h,λ_=>h2⟩
  .simp only[ae h2]
   obtain⟨a,b⟩:=ih (m-aT t) kd
   exact⟨a,λh=>by rw[La];exact b (by simp only[bO]at h;omega)⟩
theorem Ot(l:fP):∀m,jB l m=m-BA l (dP l m):=by
 induction l with
 |nil=>intro m;show m=m-0;grind
 |cons t l ih=>
  intro m
  unfold dP jB
  by_cases h:m<aT t
  .simp only[ab h];show m=m-0;grind
  .simp only[ae h]
   rw[ih]
   show _=m-(aT t+BA l _)
   grind
structure Ou(D n:Nat)(l:fP):Prop where
 len:l.length<=1000000
 tl:∀t∈l,t.length<=1000000
 st:∀t∈l,Sz (aT t)
 id:∀t∈l,∀p∈t,p.1=-1\/(0<=p.1/\p.1<n)
 sp:∀t∈l,∀p∈t,Sz p.2
 zp:∀t∈l,∀p∈t,Zk D 1 p.2
structure Ov(D:Nat)(l:fP)(m x:Rat):Prop where
 cum:∀k,k<=l.length->Sz (m-BA l k)
 nn:0<=m
 sx:Sz x
 q:dP l m<l.length->Sz (x/aT (ix l (dP l m)))
 z:dP l m<l.length->∀p∈ix l (dP l m),Zk D 1 (p.2*(x/aT (ix l (dP l m))))
def Ov.ne{D:Nat}{l:fP}{m x:Rat}(h:Ov D l m x)(hf:dP l m<l.length):aT (ix l (dP l m))≠0:=by have h1:=UG l m h.nn;have h2:=h1.2 hf;intro e;rw[e]at h2;have:=h1.1;grind
def Ii.tier{h:Tr Bk}{v:B}{l:fP}(hl:Ii h v l){j:Nat}(hj:j<l.length):∃b o c G,v=.sl b o l.length c/\ld h b (o+j*4) 4 true=some (.agg (jQ G (aT (ix l j))))/\HL h 4 G (ix l j).length (λi=>zV (ix (ix l j) i))/\b<0+b+1:=by obtain⟨G,hG,-,hP⟩:=hl;obtain⟨b,o,c,e,hld⟩:=hG.pos jb;exact⟨b,o,c,G j,e,hld j hj,hP j hj,jb⟩
def acy{σ0 σ:St}(hW0:WF σ0)(hf:Fr σ0 σ){rb bc n:Nat}{o:Option (Nat×Nat)}{c:Cap}{f:Int->Rat}(hrb:σ0.aj<=rb)(hbc:σ0.aj<=bc)(hr:qY σ.h rb bc n o c f)
  (l:fP) (v:B) (hL:Ii σ0.h v l) (m x:Rat){D k:Nat}(hD:Bv D) (hl:Ou D n l) (hs:Ov D l m x) (hm:Sz m) (hZ:∀c,Zk D k (f c)) (hk:k+dH l<=256^uK):
  aC EN 141 [.c v,.agg [.bool (rn m),.str (rs m),.str (rd m)],.agg [.bool (rn x),.str (rs x),.str (rd x)],.c (.ptr rb 0)] σ λ_ σ'=>qY σ'.h rb bc n o c (λc=>f c+jO l m x c)/\(∀c,Zk D (k+dH l) (f c+jO l m x c))/\aU [rb,bc] σ σ':=by
 refine aP (kC.o _ _) kC.h ?_
 unfold kC
 dsimp only
 have l0:=hf.wf.lt hr.r
 have l1:=hf.wf.lt hr.c
 have hlen:=hL.choose_spec.1.len
 simp(disch:=try exact jz) only[go_sem,z3,hlen]
 have hF:=Fr.new (Fr.new (Fr.refl hf.wf) ⟨[.bool (rn m),.str (rs m),.str (rd m)],none⟩) ⟨[.bool (rn x),.str (rs x),.str (rd x)],none⟩
 refine(UD l v m _ hF.wf (hL.fr hW0 (hf.trans hF)) (λi hi=>hl.st _ (gy hi)) hs.cum hl.len).mono ?_
 rintro _ σ2 ⟨rfl,hf2⟩
 have hF2:=hF.trans hf2
 have hp2:σ2.h (σ.aj+1)=some ⟨[.bool (rn x),.str (rs x),.str (rd x)],none⟩:=hf2.get hF.wf (aA _ _ _)
 have hl2:σ.aj+1+1<=σ2.aj:=hf2.le
 simp(disch:=try exact jz) only[go_sem,z3,hlen]
 refine aH (λhlt=>?_) (λhlt=>?_)
 .obtain⟨b,o',c',G,rfl,hld,hP,-⟩:=hL.tier hlt
  have hb0:=hW0.bH hld
  have hld:=hF2.ld hf.wf (hf.ld hW0 hld)
  unfold jQ at hld
  have hb:=hF2.wf.bH hld
  have Gh:=gy hlt
  simp(disch:=try exact jz) only[go_sem,z3,hld,ak hp2,hP.kn]
  refine aC.st (Fr σ2) (by have hW2:=hF2.wf;exact fr) λhF3=>?_
  have nN:=hF2.trans hF3
  have hnp:=Oq l hlt
  refine(acw hW0 (hf.trans nN) hrb hbc (hr.fr hf.wf nN) (ix l (dP l m)) G hP x hs.sx (hl.st _ Gh) (hs.ne hlt) (hs.q hlt) hD hZ (λp hp=>⟨hl.id _ Gh p hp,hl.sp _ Gh p hp,hs.z hlt p hp⟩) (av jb hk) (hl.tl _ Gh)).mono ?_
  rintro _ σ4 ⟨hr4,hZ4,hf4⟩
  have e:shF f (ix l (dP l m)) (x/aT (ix l (dP l m)))=λc=>f c+jO l m x c:=by funext c;rw[Ef,ab hlt];rfl
  rw[e]at hr4 hZ4
  simp(disch:=try exact jz) only[go_sem,z3]
  exact⟨hr4,λc=>(hZ4 c).mono jb,(nN.ex _).trans hf4⟩
 .have e:(λc=>f c+jO l m x c)=f:=by funext c;rw[Ef,ae hlt,dC]
  have e2:∀c,f c+jO l m x c=f c:=λc=>bZ e c
  simp(disch:=try exact jz) only[go_sem,z3,e,e2]
  have hr2:=hr.fr hf.wf hF2
  have b0:=hF2.wf.lt hr2.r
  have b1:=hF2.wf.lt hr2.c
  refine⟨hr2.set2 jb jb,λc=>(hZ c).mono jb,Fr.ex (by have hW2:=hF2.wf;exact fr) _⟩
def aoW{σ:St}(hW:WF σ)(l:fP)(v:B)(hL:Ii σ.h v l)(m:Rat)(hl:l.length<=1000000)(hst:∀t∈l,Sz (aT t))(hs:∀k,k<=l.length->Sz (m-BA l k)):
  aC EN 182 [.c v,.agg [.bool (rn m),.str (rs m),.str (rd m)]] σ λr σ'=>r=(match mG l m with|some g=>.aW (.agg [.bool (rn g),.str (rs g),.str (rd g)]) (.aW (.c (.bool true)) .tnil)|none=>.aW (.agg [.bool (rn 0),.str (rs 0),.str (rd 0)]) (.aW (.c (.bool false)) .tnil))/\Fr σ σ':=by
 refine aP (lZ.o _ _) lZ.h ?_
 unfold lZ
 dsimp only
 have hlen:=hL.choose_spec.1.len
 simp(disch:=try exact jz) only[go_sem,z3,hlen]
 have hF:=Fr.new (Fr.new (Fr.refl hW) ⟨[.bool (rn m),.str (rs m),.str (rd m)],none⟩) ⟨[.bool (rn 0),.str (rs 0),.str (rd 0)],none⟩
 refine(UD l v m _ hF.wf (hL.fr hW hF) (λi hi=>hst _ (gy hi)) hs hl).mono ?_
 rintro _ σ2 ⟨rfl,hf2⟩
 have hF2:=hF.trans hf2
 have hp2:σ2.h (σ.aj+1)=some ⟨[.bool (rn 0),.str (rs 0),.str (rd 0)],none⟩:=hf2.get hF.wf (aA _ _ _)
 have hl2:σ.aj+1+1<=σ2.aj:=hf2.le
 have hfl:=Oe l m
 rw[aeO]
 simp(disch:=try exact jz) only[go_sem,z3,hlen]
 refine aH (λhlt=>?_) (λhlt=>?_)
 .rw[ae jb]
  simp(disch:=try exact jz) only[go_sem,z3,ak hp2,aJ hp2,hp2]
  exact fr
 .have hlt:dP l m<l.length:=jb
  rw[ab hlt]
  obtain⟨b,o',c',G,rfl,hld,hP,-⟩:=hL.tier hlt
  have hld:=hF2.ld hW hld
  unfold jQ at hld
  have hb:=hF2.wf.bH hld
  have Gh:=hst _ (gy hlt)
  have hlm:Sz (jB l m):=by rw[Ot];exact hs _ hfl
  simp(disch:=try exact jz) only[go_sem,z3,hld,uS hld,ak hp2,aJ hp2,hp2]
  exact fr
def Ju(f:Int->Rat)(l:fP)(c:Int):Rat:=f c+iU l c
def aie(f:Int->Rat):Ju f []=f:=by funext c;show f c+0=f c;grind
def aeP(f:Int->Rat)(l:fP)(t:dJ):shF (Ju f l) t 1=Ju f (l++[t]):=by funext c;unfold shF Ju;rw[Ee];grind
def aoX{σ0 σ:St}(hW0:WF σ0)(hf:Fr σ0 σ){rb bc n:Nat}{o:Option (Nat×Nat)}{c:Cap}{f:Int->Rat}(hrb:σ0.aj<=rb)(hbc:σ0.aj<=bc)(hr:qY σ.h rb bc n o c f)
  (l:fP) (v:B) (hL:Ii σ0.h v l) (m:Rat){D k:Nat}(hD:Bv D) (hl:Ou D n l) (hs:Ov D l m (jB l m)) (hm:Sz m) (hZ:∀c,Zk D k (f c)) (hk:k+dH l<=256^uK) (hpos:0<l.length):
  aC EN 96 [.c v,.agg [.bool (rn m),.str (rs m),.str (rd m)],.c (.ptr rb 0)] σ λ_ σ'=>qY σ'.h rb bc n o c (λc=>f c+fZ l m c)/\(∀c,Zk D (k+dH l) (f c+fZ l m c))/\aU [rb,bc] σ σ':=by
 refine aP (lV.o _ _) lV.h ?_
 unfold lV
 dsimp only
 have l0:=hf.wf.lt hr.r
 have l1:=hf.wf.lt hr.c
 have hlen:=hL.choose_spec.1.len
 simp(disch:=try exact jz) only[go_sem,z3,hlen]
 have hF:=Fr.new (Fr.refl hf.wf) ⟨[.bool (rn m),.str (rs m),.str (rd m)],none⟩
 refine(UD l v m _ hF.wf (hL.fr hW0 (hf.trans hF)) (λi hi=>hl.st _ (gy hi)) hs.cum hl.len).mono ?_
 rintro _ σ2 ⟨rfl,hf2⟩
 have hF2:=hF.trans hf2
 have hl2:σ.aj+1<=σ2.aj:=hf2.le
 have hfl:=Oe l m
 have hll:=hl.len
 obtain⟨G,hG,hcap,hP⟩:=hL
 obtain⟨b,o',c0,rfl,vC⟩:=hG.pos hpos
 obtain⟨v',hv',-,⟨h0,-⟩|⟨b2,o2,c2,c',h2,rfl⟩⟩:=aq5 hcap (.inr ⟨b,o',c0,rfl,hpos⟩) hfl 4
 .omega
 cases h2
 simp(disch:=try exact jz) only[go_sem,z3,hlen,hv']
 refine bJ.st (Fr σ2) (by have hW2:=hF2.wf;exact fr) λhF3=>?_
 have nN:=hF2.trans hF3
 refine aF (λq tm σ'=>∃j,q=dP l m-j/\j<=dP l m/\Tr.ah tm 0=.c (.sl b o' l.length c0)/\Tr.ah tm 2=.c (.ptr rb 0)/\Tr.ah tm 6=.c (.int .i64 (.ofNat (dP l m)))/\Tr.ah tm 7=.c (.ptr σ2.aj 0)
  /\Tr.ah tm 20=.c (.sl b o' (dP l m) c')/\Tr.ah tm 21=.c (.int .i64 (.ofNat (dP l m)))/\Tr.ah tm 22=.c (.int .i64 (.ofNat j))
  /\σ'.h σ2.aj=some ⟨[.bool (rn (jB l m)),.str (rs (jB l m)),.str (rd (jB l m))],none⟩/\qY σ'.h rb bc n o c (Ju f (l.take j))/\(∀c,Zk D (k+dH (l.take j)) (Ju f (l.take j) c))/\aU [rb,bc] σ σ'/\σ2.aj+1<=σ'.aj) (dP l m) ?_ ?_
 .refine⟨0,jb,jb,?_⟩
  simp(disch:=try exact jz) only[go_sem,z3,am,cP,aie]
  exact⟨hr.fr hf.wf nN,λc=>(hZ c).mono jb,nN.ex _,jp⟩
 .rintro q tm σ' ⟨j,rfl,hj,t0,t2,t6,t7,t20,t21,t22,hq,hr',hZ',hf',hnx⟩
  simp(disch:=try exact jz) only[go_sem,z3,t0,t2,t6,t7,t20,t21,t22]
  refine aH (λhlt=>?_) (λhlt=>?_)
  .have hjl:j<l.length:=jb
   have Gh:=gy hjl
   have Eh:=hP j hjl
   have htl:=hl.tl _ Gh
   have hpl:=Eh.len
   have aeQ:=vC j hjl
   have hb0:=hW0.bH aeQ
   have hld:=hf'.ld hf.wf (by simp;omega) (hf.ld hW0 aeQ)
   unfold jQ at hld
   have hb:=hf'.wf.bH hld
   simp(disch:=try exact jz) only[go_sem,z3,t0,t2,t6,t7,t20,t21,t22,hld,Eh.kn,hpl]
   refine bJ.st (Fr σ') (by have hW2:=hf'.wf;exact fr) λiH=>?_
   refine aF (λq tm σ3=>∃i,q=(ix l j).length-i/\i<=(ix l j).length/\Tr.ah tm 0=.c (.sl b o' l.length c0)/\Tr.ah tm 2=.c (.ptr rb 0)/\Tr.ah tm 6=.c (.int .i64 (.ofNat (dP l m)))/\Tr.ah tm 7=.c (.ptr σ2.aj 0)
    /\Tr.ah tm 20=.c (.sl b o' (dP l m) c')/\Tr.ah tm 21=.c (.int .i64 (.ofNat (dP l m)))/\Tr.ah tm 22=.c (.int .i64 (.ofNat j))/\Tr.ah tm 27=.c (G j)/\Tr.ah tm 28=.c (.int .i64 (.ofNat (ix l j).length))/\Tr.ah tm 29=.c (.int .i64 (.ofNat i))
    /\qY σ3.h rb bc n o c (shF (Ju f (l.take j)) ((ix l j).take i) 1)/\(∀c,Zk D (k+dH (l.take j)+i) (shF (Ju f (l.take j)) ((ix l j).take i) 1 c))/\aU [rb,bc] σ' σ3) (ix l j).length ?_ ?_
   .refine⟨0,jb,jb,?_⟩
    simp(disch:=try exact jz) only[go_sem,z3,t0,t2,t6,t7,t20,t21,t22,am,cP,acv]
    exact⟨hr'.fr hf'.wf iH,hZ',iH.ex _⟩
   .rintro q Wn σ3 ⟨i,rfl,hi,t0,t2,t6,t7,t20,t21,t22,t27,t28,t29,hr3,hZ3,hf3⟩
    simp(disch:=try exact jz) only[go_sem,z3,t0,t2,t6,t7,t20,t21,t22,t27,t28,t29]
    refine aH (λhli=>?_) (λhli=>?_)
    .obtain⟨b3,o3,c3,e3,uz⟩:=Eh.pos jb
     rw[e3]at t27
     have uz:=uz i hli
     have hb3:=hW0.bH uz
     have hlx:=(hf'.trans hf3).ld hf.wf (by simp;omega) (hf.ld hW0 uz)
     unfold zV at hlx
     have hb4:=hf3.wf.bH hlx
     have hsn:=XI (Ju f (l.take j)) ((ix l j).take i) (ix (ix l j) i) 1
     rw[<-take_snoc hli,Rat.mul_one]at hsn
     have hpm:=gy hli
     have hid:=hl.id _ Gh _ hpm
     have hsp:=hl.sp _ Gh _ hpm
     have hzp:=hl.zp _ Gh _ hpm
     have hnp:=Oq l hjl
     generalize ix (ix l j) i=p at*
     simp(disch:=try exact jz) only[go_sem,z3,t0,t2,t6,t7,t20,t21,t22,t27,t28,t29,hlx]
     refine aC.st (Fr σ3) (by have hW2:=hf3.wf;exact fr) λlK=>?_
     refine(aoV lK.wf (hr3.fr hf3.wf lK) _ hsp _ ((hZ3 _).sz hD (av jb hk)) hid).mono ?_
     rintro _ σ5 ⟨hr5,hf5⟩
     rw[hsn]at hr5
     simp(disch:=try exact jz) only[go_sem,z3,t0,t2,t6,t7,t20,t21,t22,t27,t28,t29]
     refine⟨(ix l j).length-(i+1),jb,i+1,rfl,jb,e3.symm▸rfl,rfl,hr5,λc=>?_,hf3.trans ((lK.ex _).trans hf5)⟩
     rw[<-hsn]
     refine(hZ3 c).add (l:=1) ?_
     split
     .exact hzp
     .exact Zk.zero
    .have:i=(ix l j).length:=jb
     subst this
     rw[ce,aeP,<-take_snoc hjl]at hr3 hZ3
     have hnp:=Om (l.take j) (ix l j)
     rw[<-take_snoc hjl]at hnp
     have hfx:=hf3.le
     have hqx:=hf3.get hf'.wf (show¬σ2.aj∈[rb,bc] by simp;omega) hq
     simp(disch:=try exact jz) only[go_sem,z3,t0,t2,t6,t7,t20,t21,t22,t27,t28,t29]
     exact⟨dP l m-(j+1),jb,j+1,rfl,jb,rfl,hqx,hr3,λc=>(hZ3 c).mono jb,hf'.trans hf3,jb⟩
  .have:j=dP l m:=jb
   subst this
   simp(disch:=try exact jz) only[go_sem,z3,t0,t2,t6,t7,t20,t21,t22]
   refine aH (λhlf=>?_) (λhlf=>?_)
   .have Gh:=gy hlf
    have aeQ:=vC _ hlf
    have hb0:=hW0.bH aeQ
    have hld:=hf'.ld hf.wf (by simp;omega) (hf.ld hW0 aeQ)
    unfold jQ at hld
    have hb:=hf'.wf.bH hld
    have hnp:=Oq l hlf
    simp(disch:=try exact jz) only[go_sem,z3,t0,t2,t6,t7,t20,t21,t22,hld,ak hq,(hP _ hlf).kn]
    refine(acw hW0 (hf'.to hf (by simp;omega)) hrb hbc hr' (ix l (dP l m)) (G (dP l m)) (hP _ hlf) (jB l m) hs.sx (hl.st _ Gh) (hs.ne hlf) (hs.q hlf) hD hZ' (λp hp=>⟨hl.id _ Gh p hp,hl.sp _ Gh p hp,hs.z hlf p hp⟩) (av jb hk) (hl.tl _ Gh)).mono ?_
    rintro _ σ4 ⟨hr4,hZ4,hf5⟩
    have e:shF (Ju f (l.take (dP l m))) (ix l (dP l m)) (jB l m/aT (ix l (dP l m)))=λc=>f c+fZ l m c:=by funext c;rw[Jt,ab hlf];unfold shF Ju;grind
    rw[e]at hr4 hZ4
    simp(disch:=try exact jz) only[go_sem,z3]
    exact⟨hr4,λc=>(hZ4 c).mono jb,hf'.trans hf5⟩
   .have e:Ju f (l.take (dP l m))=λc=>f c+fZ l m c:=by funext c;rw[Jt,ae hlf];unfold Ju;grind
    have hnp:=Oo l (dP l m)
    rw[e]at hr' hZ'
    simp(disch:=try exact jz) only[go_sem,z3]
    exact⟨hr',λc=>(hZ' c).mono jb,hf'⟩
theorem mM{α:Type}(l:List α)(a:α)(f:α->Rat):aI (l++[a]) f=aI l f+f a:=by
 induction l with
 |nil=>show f a+0=0+f a;grind
 |cons b l ih=>show f b+aI (l++[a]) f=f b+aI l f+f a;rw[ih];grind
def UH{α:Type}{D k:Nat}{f:α->Rat}:∀{l:List α},(∀a∈l,Zk D k (f a))->Zk D (k*l.length) (aI l f)
 |[],_=>Zk.zero
 |a::l,h=>by have:=(h a kc).add (UH (l:=l) λb hb=>h b (by simp[hb]));rw[bO,Nat.mul_succ,fT];exact this
def aif{α:Type}{l:List α}{a:α}{j:Nat}(h:a∈l.take j):a∈l:=eQ h
def P7(ms:List Nat)(i:Nat):B:=.int .i64 (.ofNat (ix ms i))
def Ij{σ:St}(hW:WF σ){n:Nat}(ms:List Nat)(mv lv rv:B)(f:Nat->Rat)(hm:HC σ.h mv ms.length (P7 ms))(hv:HL σ.h 3 rv n λi=>gK (f i))(hms:∀i∈ms,i<n)(hl:ms.length<=1000000)
  {D k:Nat}(hD:Bv D) (hZ:∀i,i<n->Zk D k (f i)) (hk:k*(ms.length+1)<=256^uK):
  aC EN 97 [.agg [mv,lv],.c rv] σ λr σ'=>r=.agg [.bool (rn (aI ms f)),.str (rs (aI ms f)),.str (rd (aI ms f))]/\Fr σ σ':=by
 refine aP (lW.o _ _) lW.h ?_
 unfold lW
 dsimp only
 have hlen:=hm.len
 simp(disch:=try exact jz) only[go_sem,z3,hlen,hm.kn]
 refine bJ.st (Fr σ) (fr) λhF=>?_
 refine aF (λq tm σ'=>∃j,q=ms.length-j/\j<=ms.length/\Tr.ah tm 1=.c rv/\Tr.ah tm 4=.c (.ptr (σ.aj+1) 0)/\Tr.ah tm 5=.c (.ptr (σ.aj+1+1) 0)/\Tr.ah tm 10=.c mv/\Tr.ah tm 11=.c (.int .i64 (.ofNat ms.length))/\Tr.ah tm 12=.c (.int .i64 (.ofNat j))
  /\σ'.h (σ.aj+1)=some ⟨[.bool (rn 0),.str (rs 0),.str (rd 0)],none⟩/\σ'.h (σ.aj+1+1)=some ⟨[.bool (rn (aI (ms.take j) f)),.str (rs (aI (ms.take j) f)),.str (rd (aI (ms.take j) f))],none⟩/\Fr σ σ'/\σ.aj+3<=σ'.aj) ms.length ?_ ?_
 .refine⟨0,jb,jb,?_⟩
  simp(disch:=try exact jz) only[go_sem,z3,am,cP,show aI ([]:List Nat) f=0 from rfl]
  exact⟨hF,jb⟩
 .rintro q tm σ' ⟨j,rfl,hj,t1,t4,t5,t10,t11,t12,hq1,hq2,hf',hnx⟩
  simp(disch:=try exact jz) only[go_sem,z3,t1,t4,t5,t10,t11,t12]
  refine aH (λhlt=>?_) (λhlt=>?_)
  .obtain⟨b,o,c,rfl,hld⟩:=hm.pos jb
   have hld:=hf'.ld hW (hld j hlt)
   have hn:=hms _ (gy hlt)
   obtain⟨b2,o2,c2,rfl,Ez⟩:=hv.pos jb
   have Ez:=hf'.ld hW (Ez _ hn)
   have hb2:=hf'.wf.bH Ez
   unfold P7 at hld
   unfold gK at Ez
   have hsn:=mM (ms.take j) (ix ms j) f
   rw[<-take_snoc hlt]at hsn
   have hz1:Sz (f (ix ms j)):=(hZ _ hn).sz hD (av (gp _ jb) hk)
   have hz2:Sz (aI (ms.take j) f):=(UH λa ha=>hZ a (hms a (aif ha))).sz hD (av (cA _ (by rw[du];omega)) hk)
   simp(disch:=try exact jz) only[go_sem,z3,t1,t4,t5,t10,t11,t12,hld,Ez,ak hq2,hq1,hq2,aJ hq2,<-hsn]
   refine⟨ms.length-(j+1),jb,j+1,rfl,jb,rfl,rfl,?_,jb⟩
   exact fr
  .have:j=ms.length:=jb
   subst this
   rw[ce]at hq2
   simp(disch:=try exact jz) only[go_sem,z3,t1,t4,t5,t10,t11,t12,ak hq2,hq1,aJ hq1]
   exact fr
structure Jv(h:Tr Bk)(rv pv:B)(e:fA):Prop where
 rk:Ii h rv e.rk
 ps:∃Gm Gl:Nat->B,HL h 2 pv e.ps.length (λi=>[Gm i,Gl i])/\∀i,i<e.ps.length->HC h (Gm i) (ix e.ps i).1.length (P7 (ix e.ps i).1)/\Ii h (Gl i) (ix e.ps i).2
theorem Jv.fr{σ σ':St}(hW:WF σ)(hf:Fr σ σ'){rv pv:B}{e:fA}(h:Jv σ.h rv pv e):Jv σ'.h rv pv e:=by obtain⟨h1,Gm,Gl,h2,h3⟩:=h;exact⟨h1.fr hW hf,Gm,Gl,h2.fr hW hf,λi hi=>⟨(h3 i hi).1.fr hW hf,(h3 i hi).2.fr hW hf⟩⟩
def jA(n:Nat)(rv pv:B)(t:Rat):List B:=[.int .i64 (.ofNat n),rv,pv,.bool (rn t),.str (rs t),.str (rd t)]
def Ii.kn{h:Tr Bk}{v:B}{l:fP}(hl:Ii h v l):v.kn=true:=hl.choose_spec.1.kn
def Jv.VJ{h:Tr Bk}{rv pv:B}{e:fA}(hl:Jv h rv pv e):pv.kn=true:=by obtain⟨_,Gm,Gl,h2,h3⟩:=hl;exact h2.kn
structure avk(σ σ':St)(r:V)(n:Nat)(f:Nat->Rat)(b:Nat):Prop where
 r:r=.c (.sl b 0 n (.ex n))
 c:σ'.h b=some ⟨cZ n f,none⟩
 b:σ.aj<=b
def Lc{σ:St}(hW:WF σ){n:Nat}{rv pv:B}(t:Rat)(e:fA)(hL:Jv σ.h rv pv e)(m:Rat){D:Nat}(hD:Bv D)(hn:n<=1000000)(hl:Ou D n e.rk)(hs:Ov D e.rk m (jB e.rk m))(hm:Sz m)(hk:dH e.rk<=256^uK)(hpos:0<e.rk.length):
  aC EN 57 [.agg (jA n rv pv t),.agg [.bool (rn m),.str (rs m),.str (rd m)]] σ λr σ'=>(∃b,avk σ σ' r n (λi=>xP e m i) b)/\(∀i:Nat,Zk D (dH e.rk) (xP e m i))/\Fr σ σ':=by
 refine aP (jU.o _ _) jU.h ?_
 unfold jU jA
 dsimp only
 simp(disch:=try exact jz) only[go_sem,z3,hL.rk.kn]
 refine aC.st (Fr σ) (fr) λhF=>?_
 refine(aoX (f:=λ_=>0) (k:=0) hW hF jb jb ⟨aA _ _ _,(au _ _ _ _ jb).trans (aA _ _ _),rfl,rfl,jb⟩ e.rk rv hL.rk m hD hl hs hm (λ_=>Zk.zero) jb hpos).mono ?_
 rintro _ σ2 ⟨hr2,hZ2,hf2⟩
 have hz:(λc=>(0:Rat)+fZ e.rk m c)=fZ e.rk m:=by funext c;grind
 have hz2:∀c,(0:Rat)+fZ e.rk m c=fZ e.rk m c:=λc=>by grind
 rw[hz]at hr2
 simp only[hz2,cQ]at hZ2
 have h5:=hr2.r
 simp(disch:=try exact jz) only[go_sem,z3,ak h5]
 exact⟨⟨_,rfl,hr2.c,jb⟩,λi=>hZ2 i,hf2.to hF (by simp;omega)⟩
def acA{σ:St}(hW:WF σ){n:Nat}{rv pv:B}(t:Rat)(e:fA)(hL:Jv σ.h rv pv e)(m:Rat){D:Nat}(hD:Bv D)(hn:n<=1000000)(hl:Ou D n e.rk)(hs:Ov D e.rk m 1)(hm:Sz m)(hk:dH e.rk<=256^uK):
  aC EN 140 [.agg (jA n rv pv t),.agg [.bool (rn m),.str (rs m),.str (rd m)]] σ λr σ'=>(∃b,avk σ σ' r n (λi=>rts e m i) b)/\(∀i:Nat,Zk D (dH e.rk) (rts e m i))/\Fr σ σ':=by
 refine aP (ku.o _ _) ku.h ?_
 unfold ku jA
 dsimp only
 simp(disch:=try exact jz) only[go_sem,z3,hL.rk.kn]
 refine aC.st (Fr σ) (fr) λhF=>?_
 refine(acy (f:=λ_=>0) (k:=0) hW hF jb jb ⟨aA _ _ _,(au _ _ _ _ jb).trans (aA _ _ _),rfl,rfl,jb⟩ e.rk rv hL.rk m 1 hD hl hs hm (λ_=>Zk.zero) jb).mono ?_
 rintro _ σ2 ⟨hr2,hZ2,hf2⟩
 have hz:(λc=>(0:Rat)+jO e.rk m 1 c)=jO e.rk m 1:=by funext c;grind
 have hz2:∀c,(0:Rat)+jO e.rk m 1 c=jO e.rk m 1 c:=λc=>by grind
 rw[hz]at hr2
 simp only[hz2,cQ]at hZ2
 have h5:=hr2.r
 simp(disch:=try exact jz) only[go_sem,z3,ak h5]
 exact⟨⟨_,rfl,hr2.c,jb⟩,λi=>hZ2 i,hf2.to hF (by simp;omega)⟩
def acB{σ:St}(hW:WF σ){n b:Nat}{c:Cap}{f:Nat->Rat}(hb:σ.h b=some ⟨cZ n f,none⟩)(hn:n<=1000000):
  aC EN 55 [.c (.sl b 0 n c)] σ λr σ'=>(∃b' c' o',r=.c (.sl b' 0 n c')/\σ'.h b'=some ⟨cZ n f,o'⟩/\plo o'=true/\YU o'=true/\σ.aj<=b'/\b'<σ'.aj)/\Fr σ σ':=by
 refine aP (iI.o _ _) iI.h ?_
 unfold iI
 dsimp only
 have hbl:=hW.lt hb
 by_cases h0:n=0
 .subst h0
  simp(disch:=try exact jz) only[go_sem,z3,hb]
  refine⟨⟨σ.aj,_,none,rfl,aA _ _ _,rfl,rfl,jp,cf _⟩,?_⟩
  exact fr
 .simp(disch:=try exact jz) only[go_sem,z3,hb]
  refine⟨⟨σ.aj+1,_,_,rfl,aA _ _ _,rfl,rfl,jb,cf _⟩,?_⟩
  exact fr
def zF(l:List Nat)(f:Nat->Rat):Int->Rat:=λi=>if 0<=i then(if l.contains i.toNat then 0 else f i.toNat)else 0
def Ox(l:List Nat)(f:Nat->Rat):zF l f (-1)=0:=ae jb
def UJ(l:List Nat)(f:Nat->Rat)(i:Nat):zF l f i=if l.contains i then 0 else f i:=by unfold zF;rw[ab jb,gP]
def amW(l:List Nat)(f:Nat->Rat)(k n:Nat):cZ n (aO (λi=>zF l f i) k 0)=cZ n λi=>zF (l++[k]) f i:=by
 refine dQ λi _=>?_;show(if i=k then 0 else zF l f i)=_;rw[UJ,UJ,List.contains_append];by_cases h:i=k
 .subst h;simp
 .rw[ae h];simp[h]
def flat(ps:List (List Nat×fP)):List Nat:=ps.flatMap λp=>p.1
def aeR(ps:List (List Nat×fP))(p:List Nat×fP):flat (ps++[p])=flat ps++p.1:=by unfold flat;simp
def J3(e:fA)(c:Nat):(flat e.ps).contains c=pooled e c:=by
 unfold flat pooled;induction e.ps with
 |nil=>rfl
 |cons p l ih=>rw[eL,List.contains_append,List.any_cons,ih]
def aii{σ:St}(hW:WF σ){n b:Nat}{rv pv:B}(t:Rat)(e:fA)(hL:Jv σ.h rv pv e){f:Nat->Rat}(hb:σ.h b=some ⟨cZ n f,none⟩){c:Cap}(hn:n<=1000000)(hp:e.ps.length<=1000000)(hm:∀p∈e.ps,p.1.length<=1000000/\∀i∈p.1,i<n):
  aC EN 95 [.agg (jA n rv pv t),.c (.sl b 0 n c)] σ λr σ'=>(∃rb bc o c',r=.c (.ptr rb 0)/\qY σ'.h rb bc n o c' (zF (flat e.ps) f)/\σ.aj<=rb/\σ.aj<=bc)/\Fr σ σ':=by
 refine aP (kX.o _ _) kX.h ?_
 unfold kX jA
 dsimp only
 simp(disch:=try exact jz) only[go_sem,z3]
 refine aC.st (Fr σ) (fr) λhF=>?_
 refine(acB hF.wf (hF.get hW hb) hn).mono ?_
 rintro _ σ2 ⟨⟨bc,c',o,rfl,h2,hpl,hrd,hbc,hbc2⟩,hf2⟩
 have hF2:=hF.trans hf2
 obtain⟨-,Gm,Gl,hG,hP⟩:=hL
 have hlen:=hG.len
 have hbox:σ2.h σ.aj=some ⟨[.int .i64 (.ofNat n),rv,pv,.bool (rn t),.str (rs t),.str (rd t)],none⟩:=hf2.get hF.wf (aA _ _ _)
 have hl2:σ.aj+1<=σ2.aj:=hf2.le
 have hbc:σ.aj+1<=bc:=hbc
 simp(disch:=try exact jz) only[go_sem,z3,ak hbox,hlen,hG.kn]
 refine aF (λq tm σ'=>∃j,q=e.ps.length-j/\j<=e.ps.length/\Tr.ah tm 5=.c (.ptr σ2.aj 0)/\Tr.ah tm 15=.c pv/\Tr.ah tm 16=.c (.int .i64 (.ofNat e.ps.length))/\Tr.ah tm 17=.c (.int .i64 (.ofNat j))
  /\qY σ'.h σ2.aj bc n o c' (zF (flat (e.ps.take j)) f)/\Fr σ σ'/\σ2.aj+1<=σ'.aj) e.ps.length ?_ ?_
 .refine⟨0,jb,jb,?_⟩
  simp(disch:=try exact jz) only[go_sem,z3,am,cP]
  refine⟨⟨?_,?_,hpl,hrd,jb⟩,?_,jp⟩
  .rw[aA,Ox]
  .rw[au _ _ _ _ jb,h2]
   congr 2
  .exact fr
 .rintro q tm σ' ⟨j,rfl,hj,t5,t15,t16,t17,hr,hf',hnx⟩
  simp(disch:=try exact jz) only[go_sem,z3,t5,t15,t16,t17]
  refine aH (λhlt=>?_) (λhlt=>?_)
  .obtain⟨b2,o2,c2,rfl,hld⟩:=hG.pos jb
   have hld:=hf'.ld hW (hld j hlt)
   have hb2:=hf'.wf.bH hld
   have Eh:=hP j hlt
   have hpl2:=Eh.1.len
   have hmj:=hm _ (gy hlt)
   have hfs:=aeR (e.ps.take j) (ix e.ps j)
   rw[<-take_snoc hlt]at hfs
   generalize ix e.ps j=p at*
   simp(disch:=try exact jz) only[go_sem,z3,t5,t15,t16,t17,hld,Eh.1.kn,Eh.2.kn,hpl2]
   refine bJ.st (Fr σ') (by have hW2:=hf'.wf;exact fr) λiH=>?_
   refine aF (λq tm σ3=>∃i,q=p.1.length-i/\i<=p.1.length/\Tr.ah tm 5=.c (.ptr σ2.aj 0)/\Tr.ah tm 15=.c (.sl b2 o2 e.ps.length c2)/\Tr.ah tm 16=.c (.int .i64 (.ofNat e.ps.length))/\Tr.ah tm 17=.c (.int .i64 (.ofNat j))
    /\Tr.ah tm 22=.c (Gm j)/\Tr.ah tm 23=.c (.int .i64 (.ofNat p.1.length))/\Tr.ah tm 24=.c (.int .i64 (.ofNat i))
    /\qY σ3.h σ2.aj bc n o c' (zF (flat (e.ps.take j)++p.1.take i) f)/\Fr σ σ3/\σ2.aj+1<=σ3.aj) p.1.length ?_ ?_
   .refine⟨0,jb,jb,?_⟩
    simp(disch:=try exact jz) only[go_sem,z3,t5,t15,t16,t17,am,cP,dT]
    exact⟨hr.fr hf'.wf iH,hf'.trans iH,jb⟩
   .rintro q Wn σ3 ⟨i,rfl,hi,t5,t15,t16,t17,t22,t23,t24,hr3,hf3,hn3⟩
    simp(disch:=try exact jz) only[go_sem,z3,t5,t15,t16,t17,t22,t23,t24]
    refine aH (λhli=>?_) (λhli=>?_)
    .obtain⟨b3,o3,c3,e3,uz⟩:=Eh.1.pos jb
     rw[e3]at t22
     have uz:=hf3.ld hW (uz i hli)
     unfold P7 at uz
     have hin:=hmj.2 _ (gy hli)
     have hzs:=amW (flat (e.ps.take j)++p.1.take i) f (ix p.1 i) n
     rw[it,<-take_snoc hli]at hzs
     have avl:=hr3.r
     have avm:=hr3.c
     have hb3:=hf3.wf.lt avm
     simp(disch:=try exact jz) only[go_sem,z3,t5,t15,t16,t17,t22,t23,t24,uz,ak avl,aJ avm,hpl,hzs]
     refine⟨p.1.length-(i+1),jb,i+1,rfl,jb,e3.symm▸rfl,rfl,⟨?_,aA _ _ _,hpl,hrd,jb⟩,?_,jb⟩
     .rw[au _ _ _ _ jb,avl,Ox,Ox]
     .exact fr
    .have:i=p.1.length:=jb
     subst this
     rw[ce,<-hfs]at hr3
     simp(disch:=try exact jz) only[go_sem,z3,t5,t15,t16,t17,t22,t23,t24]
     exact⟨e.ps.length-(j+1),jb,j+1,rfl,jb,rfl,hr3,hf3,jb⟩
  .have:j=e.ps.length:=jb
   subst this
   rw[ce]at hr
   simp(disch:=try exact jz) only[go_sem,z3,t5,t15,t16,t17]
   exact⟨⟨_,_,_,_,rfl,hr,jb,jb⟩,hf'⟩
end Go.Proofs.Xe
