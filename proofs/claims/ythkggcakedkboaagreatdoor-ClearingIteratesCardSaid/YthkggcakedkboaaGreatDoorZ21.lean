import Derived.Test.YthkggcakedkboaaGreatDoorZ20
set_option linter.all false
set_option maxRecDepth 100000
namespace Go.Proofs.Xe
open Go.RowKit Go.Proofs.Ins
structure rM(h:Tr Bk)(rb bc n:Nat)(o:Option (Nat×Nat))(c:Cap)(f:Int->Rat):Prop where
 r:h rb=some ⟨[.sl bc 0 n c,.bool (rn (f (-1))),.str (rs (f (-1))),.str (rd (f (-1)))],none⟩
 c:h bc=some ⟨bU n λi=>f i,o⟩
 pl:plo o=true
 rd:YT o=true
 ne:rb≠bc
def UF(f:Int->Rat)(k:Int)(q:Rat):Int->Rat:=λc=>f c+if c=k then q else 0
def rM.set{h:Tr Bk}{rb bc n b:Nat}{o:Option (Nat×Nat)}{c:Cap}{f:Int->Rat}(hr:rM h rb bc n o c f)(h1:rb≠b)(h2:bc≠b)(k:Bk):rM (hset h b k) rb bc n o c f:=
 ⟨by rw[au _ _ _ _ h1];exact hr.r,by rw[au _ _ _ _ h2];exact hr.c,hr.pl,hr.rd,hr.ne⟩
def rM.set2{h:Tr Bk}{rb bc n b:Nat}{o:Option (Nat×Nat)}{c:Cap}{f:Int->Rat}(hr:rM h rb bc n o c f)(h1:rb≠b)(h2:bc≠b){k k':Bk}:rM (hset (hset h b k) b k') rb bc n o c f:=(hr.set h1 h2 k).set h1 h2 k'
def avj{σ:St}(hW:WF σ){rb bc n:Nat}{o:Option (Nat×Nat)}{c:Cap}{f:Int->Rat}(hr:rM σ.h rb bc n o c f)(q:Rat)(hq:Sz q)(hz:Sz (f (-1))):
  aC EN 138 [.c (.ptr rb 0),.c (.int .i64 (.negSucc 0)),.agg [.bool (rn q),.str (rs q),.str (rd q)]] σ λ_ σ'=>rM σ'.h rb bc n o c (UF f (-1) q)/\aU [rb,bc] σ σ':=by
 refine aP (fO.o _ _) fO.h ?_
 unfold fO
 dsimp only
 obtain⟨h0,h1,hpl,hrd,hne⟩:=hr
 have l0:=hW.lt h0
 have l1:=hW.lt h1
 simp(disch:=try exact jz) only[go_sem,z3,ak h0,h0]
 refine⟨⟨?_,?_,hpl,hrd,hne⟩,?_⟩
 .rw[aA];simp[UF]
 .rw[au _ _ _ _ hne.symm,au _ _ _ _ jb,h1,dA]
  intro i _
  unfold UF
  rw[ae jb];grind
 .repeat(first|assumption|exact aU.refl (by assumption)|exact aU.up (by assumption) kf|exact aU.up (aU.refl (by assumption)) kf|refine aU.set1 ?_ kg kf|refine aU.jl ?_ kg|refine aU.nS ?_ kg|refine aU.oH ?_ kf)
def avk{σ:St}(hW:WF σ){rb bc n:Nat}{o:Option (Nat×Nat)}{c:Cap}{f:Int->Rat}(hr:rM σ.h rb bc n o c f)(q:Rat)(hq:Sz q)(k:Nat)(hz:Sz (f k))(hk:k<n):
  aC EN 138 [.c (.ptr rb 0),.c (.int .i64 (.ofNat k)),.agg [.bool (rn q),.str (rs q),.str (rd q)]] σ λ_ σ'=>rM σ'.h rb bc n o c (UF f k q)/\aU [rb,bc] σ σ':=by
 refine aP (fO.o _ _) fO.h ?_
 unfold fO
 dsimp only
 obtain⟨h0,h1,hpl,hrd,hne⟩:=hr
 have l0:=hW.lt h0
 have l1:=hW.lt h1
 simp(disch:=try exact jz) only[go_sem,z3,ak h0,ak h1,h0,h1,hrd,hpl]
 refine⟨⟨?_,?_,hpl,hrd,hne⟩,?_⟩
 .rw[au _ _ _ _ hne,au _ _ _ _ jb,h0]
  unfold UF
  rw[ae jb,cQ]
 .rw[aA]
  congr 2
  refine dA λi _=>?_
  unfold UF aN
  by_cases e:i=k
  .rw[ab e,ab jb,e]
  .rw[ae e,ae jb,cQ]
 .repeat(first|assumption|exact aU.refl (by assumption)|exact aU.up (by assumption) kf|exact aU.up (aU.refl (by assumption)) kf|refine aU.set1 ?_ kg kf|refine aU.jl ?_ kg|refine aU.nS ?_ kg|refine aU.oH ?_ kf)
def aoU{σ:St}(hW:WF σ){rb bc n:Nat}{o:Option (Nat×Nat)}{c:Cap}{f:Int->Rat}(hr:rM σ.h rb bc n o c f)(q:Rat)(hq:Sz q)(k:Int)(hz:Sz (f k))(hk:k=-1\/(0<=k/\k<n)):
  aC EN 138 [.c (.ptr rb 0),.c (.int .i64 k),.agg [.bool (rn q),.str (rs q),.str (rd q)]] σ λ_ σ'=>rM σ'.h rb bc n o c (UF f k q)/\aU [rb,bc] σ σ':=by
 rcases hk with rfl|⟨h1,h2⟩
 .exact avj hW hr q hq hz
 .obtain⟨j,rfl⟩:=cw h1
  exact avk hW hr q hq j hz jb
theorem rM.fr{σ σ':St}{rb bc n:Nat}{o:Option (Nat×Nat)}{c:Cap}{f:Int->Rat}(hW:WF σ)(hf:Fr σ σ')(hr:rM σ.h rb bc n o c f):rM σ'.h rb bc n o c f:=
 ⟨hf.get hW hr.r,hf.get hW hr.c,hr.pl,hr.rd,hr.ne⟩
def u1:1<=256^uK:=dj jj
def aeM(t:dO)(p:Int×Rat)(c:Int):gB (t++[p]) c=gB t c+if c=p.1 then p.2 else 0:=by
 induction t with
 |nil=>
  show(if p.1=c then p.2 else 0)+0=0+if c=p.1 then p.2 else 0
  by_cases h:p.1=c
  .rw[ab h,ab h.symm];grind
  .rw[ae h,ae (Ne.symm h)]
 |cons r t ih=>
  show(if r.1=c then r.2 else 0)+gB (t++[p]) c=(if r.1=c then r.2 else 0)+gB t c+_
  rw[ih];grind
def shF(f:Int->Rat)(t:dO)(u:Rat)(c:Int):Rat:=f c+gB t c*u
def acs(f:Int->Rat)(u:Rat):shF f [] u=f:=by funext c;show f c+0*u=f c;grind
def XH(f:Int->Rat)(t:dO)(p:Int×Rat)(u:Rat):UF (shF f t u) p.1 (p.2*u)=shF f (t++[p]) u:=by funext c;unfold UF shF;rw[aeM];split<;>grind
theorem take_snoc{α:Type}[Inhabited α]{t:List α}{j:Nat}(h:j<t.length):t.take (j+1)=t.take j++[ix t j]:=by rw[bJ h]
theorem gy{α:Type}[Inhabited α]{t:List α}{j:Nat}(h:j<t.length):ix t j∈t:=by rw[dX h];exact List.getElem_mem h
def acu{σ0 σ:St}(hW0:WF σ0)(hf:Fr σ0 σ){rb bc n:Nat}{o:Option (Nat×Nat)}{c:Cap}{f:Int->Rat}(hrb:σ0.aj<=rb)(hbc:σ0.aj<=bc)(hr:rM σ.h rb bc n o c f)
  (t:dO) (G:B) (hG:HL σ0.h 4 G t.length λj=>zZ (ix t j)) (x:Rat) (hx:Sz x) (hs:Sz (aV t)) (h0:aV t≠0) (hqz:Sz (x/aV t)){D k:Nat}(hD:BN D) (hZ:∀c,Zk D k (f c))
  (hp:∀p∈t,(p.1=-1\/(0<=p.1/\p.1<n))/\Sz p.2/\Zk D 1 (p.2*(x/aV t))) (hk:k+t.length<=256^uK) (hn:t.length<=1000000):
  aC EN 139 [.c (.ptr rb 0),.agg (jV G (aV t)),.agg [.bool (rn x),.str (rs x),.str (rd x)]] σ λ_ σ'=>rM σ'.h rb bc n o c (shF f t (x/aV t))/\(∀c,Zk D (k+t.length) (shF f t (x/aV t) c))/\aU [rb,bc] σ σ':=by
 refine aP (kG.o _ _) kG.h ?_
 unfold kG jV
 dsimp only
 have l0:=hf.wf.lt hr.r
 have l1:=hf.wf.lt hr.c
 have hlen:=hG.len
 have hkn:=hG.kn
 have hu:Hu x (aV t)=x/aV t:=by unfold Hu;rw[ae h0]
 generalize x/aV t=u at*
 have hW:=hf.wf
 simp(disch:=try exact jz) only[go_sem,z3,hlen,hu,hkn]
 refine bF.st (Fr σ) (fr) λhF=>?_
 refine aF (λm tm σ'=>∃j,m=t.length-j/\j<=t.length/\Tr.ah tm 0=.c (.ptr rb 0)/\Tr.ah tm 6=.c (.ptr (σ.aj+1+1) 0)/\Tr.ah tm 18=.c G/\Tr.ah tm 19=.c (.int .i64 (.ofNat t.length))/\Tr.ah tm 20=.c (.int .i64 (.ofNat j))
  /\σ'.h (σ.aj+1+1)=some ⟨[.bool (rn u),.str (rs u),.str (rd u)],none⟩/\rM σ'.h rb bc n o c (shF f (t.take j) u)/\(∀c,Zk D (k+j) (shF f (t.take j) u c))/\aU [rb,bc] σ σ'/\σ.aj+3<=σ'.aj) t.length ?_ ?_
 .refine⟨0,jb,jb,?_⟩
  simp(disch:=try exact jz) only[go_sem,z3,am,cI,acs]
  exact⟨hr.fr hf.wf hF,hZ,hF.ex _,jb⟩
 .rintro m tm σ' ⟨j,rfl,hj,t0,t6,je,t19,t20,hq,hr',hZ',hf',hnx⟩
  simp(disch:=try exact jz) only[go_sem,z3,t0,t6,je,t19,t20]
  refine aH (λhlt=>?_) (λhlt=>?_)
  .obtain⟨b,o',c',rfl,hld⟩:=hG.pos jb
   have hld:=hld j hlt
   have hb0:=hW0.dw hld
   have hld:=hf'.ld hf.wf (by simp;omega) (hf.ld hW0 hld)
   have hpp:=hp _ (gy hlt)
   unfold zZ at hld
   have hb:=hf'.wf.dw hld
   have hsn:=XH f (t.take j) (ix t j) u
   rw[<-take_snoc hlt]at hsn
   generalize ix t j=p at*
   obtain⟨hp1,hp2,hp3⟩:=hpp
   simp(disch:=try exact jz) only[go_sem,z3,t0,t6,je,t19,t20,hld,ak hq]
   refine aC.st (Fr σ') (by have hW':=hf'.wf;exact fr) λhF=>?_
   refine(aoU hF.wf (hr'.fr hf'.wf hF) _ (hp3.sz hD u1) _ ((hZ' _).sz hD (aw jb hk)) hp1).mono ?_
   rintro _ σ2 ⟨hr2,hf2⟩
   have hf3:aU [rb,bc] σ' σ2:=aU.trans (hF.ex _) hf2
   have hl2:σ'.aj+1<=σ2.aj:=hf2.le
   have hle:=hf'.le
   simp(disch:=try exact jz) only[go_sem,z3,t0,t6,je,t19,t20]
   refine⟨t.length-(j+1),jb,j+1,rfl,jb,rfl,hf3.get hf'.wf (by simp;omega) hq,hsn▸hr2,λc=>?_,hf'.trans hf3,jb⟩
   rw[<-hsn]
   refine(hZ' c).add (l:=1) ?_
   split
   .exact hp3
   .exact Zk.zero
  .have:j=t.length:=jb
   subst this
   rw[cn]at hr' hZ'
   simp(disch:=try exact jz) only[go_sem,z3,t0,t6,je,t19,t20]
   exact⟨hr',hZ',hf'⟩
def lT:fZ->Int->Rat
 |[],_=>0
 |t::l,c=>gB t c+lT l c
def dH:fZ->Nat
 |[]=>0
 |t::l=>t.length+dH l
def Eo(l:fZ)(t:dO)(c:Int):lT (l++[t]) c=lT l c+gB t c:=by
 induction l with
 |nil=>show gB t c+0=0+gB t c;grind
 |cons u l ih=>show gB u c+lT (l++[t]) c=gB u c+lT l c+gB t c;rw[ih];grind
def Oj(l:fZ)(t:dO):dH (l++[t])=dH l+t.length:=by
 induction l with
 |nil=>show t.length+0=0+t.length;omega
 |cons u l ih=>show u.length+dH (l++[t])=u.length+dH l+t.length;rw[ih];omega
def Ol(l:fZ):∀j,dH (l.take j)<=dH l:=by
 induction l with
 |nil=>intro j;simp
 |cons u l ih=>
  intro j
  cases j with
  |zero=>simp[dH]
  |succ j=>rw[gh];have:=ih j;unfold dH;omega
def Om(l:fZ){j:Nat}(h:j<l.length):dH (l.take j)+(ix l j).length<=dH l:=by rw[<-Oj,<-take_snoc h];exact Ol _ _
theorem Ob(l:fZ):∀m,dP l m<=l.length:=by
 induction l with
 |nil=>intro m;exact cO 0
 |cons t l ih=>intro m;unfold dP;have:=ih (m-aV t);rw[bZ];split<;>omega
def UG{α:Type}[Inhabited α](a:α)(l:List α):ix (a::l) 0=a:=rfl
def Ll{α:Type}[Inhabited α](a:α)(l:List α)(j:Nat):ix (a::l) (j+1)=ix l j:=rfl
def Jw(l:fZ)(c:Int):∀m,gZ l m c=lT (l.take (dP l m)) c+if dP l m<l.length then gB (ix l (dP l m)) c*(jG l m/aV (ix l (dP l m)))else 0:=by
 induction l with
 |nil=>intro m;show(0:Rat)=0+_;simp;grind
 |cons t l ih=>
  intro m
  unfold gZ dP jG
  by_cases h:m<aV t
  .simp only[ab h]
   rw[ab kc,UG]
   show _=0+_
   grind
  .simp only[ae h]
   rw[ih,gh,Ll]
   simp only[bZ,Nat.add_lt_add_iff_right]
   show _=gB t c+lT _ c+_
   grind
def Ep(l:fZ)(c:Int)(r:Rat):∀m,jU l m r c=if dP l m<l.length then gB (ix l (dP l m)) c*(r/aV (ix l (dP l m)))else 0:=by
 induction l with
 |nil=>intro m;rfl
 |cons t l ih=>
  intro m
  unfold jU dP
  by_cases h:m<aV t
  .simp only[ab h]
   rw[ab kc,UG]
  .simp only[ae h]
   rw[ih,Ll]
   simp only[bZ,Nat.add_lt_add_iff_right]
def aeN(l:fZ):∀m,mV l m=if dP l m<l.length then some (aV (ix l (dP l m))-jG l m)else none:=by
 induction l with
 |nil=>intro m;rfl
 |cons t l ih=>
  intro m
  unfold mV dP jG
  by_cases h:m<aV t
  .simp only[ab h]
   rw[ab kc,UG]
  .simp only[ae h]
   rw[ih,Ll]
   simp only[bZ,Nat.add_lt_add_iff_right]
theorem UH(l:fZ):∀m,0<=m->0<=jG l m/\(dP l m<l.length->jG l m<aV (ix l (dP l m))):=by
 induction l with
 |nil=>intro m h;exact⟨h,λh=>by simp[dP]at h⟩
 |cons t l ih=>
  intro m h
  unfold dP jG
  by_cases h2:m<aV t
  .simp only[ab h2];exact⟨h,λ_=>h2⟩
  .simp only[ae h2]
   obtain⟨a,b⟩:=ih (m-aV t) kd
   exact⟨a,λh=>by rw[Ll];exact b (by simp only[bZ]at h;omega)⟩
theorem Oo(l:fZ):∀m,jG l m=m-BK l (dP l m):=by
 induction l with
 |nil=>intro m;show m=m-0;grind
 |cons t l ih=>
  intro m
  unfold dP jG
  by_cases h:m<aV t
  .simp only[ab h];show m=m-0;grind
  .simp only[ae h]
   rw[ih]
   show _=m-(aV t+BK l _)
   grind
structure Oq(D n:Nat)(l:fZ):Prop where
 len:l.length<=1000000
 tl:∀t∈l,t.length<=1000000
 st:∀t∈l,Sz (aV t)
 id:∀t∈l,∀p∈t,p.1=-1\/(0<=p.1/\p.1<n)
 sp:∀t∈l,∀p∈t,Sz p.2
 zp:∀t∈l,∀p∈t,Zk D 1 p.2
structure Ot(D:Nat)(l:fZ)(m x:Rat):Prop where
 cum:∀k,k<=l.length->Sz (m-BK l k)
 nn:0<=m
 sx:Sz x
 q:dP l m<l.length->Sz (x/aV (ix l (dP l m)))
 z:dP l m<l.length->∀p∈ix l (dP l m),Zk D 1 (p.2*(x/aV (ix l (dP l m))))
def Ot.ne{D:Nat}{l:fZ}{m x:Rat}(h:Ot D l m x)(hf:dP l m<l.length):aV (ix l (dP l m))≠0:=by have h1:=UH l m h.nn;have h2:=h1.2 hf;intro e;rw[e]at h2;have:=h1.1;grind
def Io.tier{h:Tr Bk}{v:B}{l:fZ}(hl:Io h v l){j:Nat}(hj:j<l.length):∃b o c G,v=.sl b o l.length c/\ld h b (o+j*4) 4 true=some (.agg (jV G (aV (ix l j))))/\HL h 4 G (ix l j).length (λi=>zZ (ix (ix l j) i))/\b<0+b+1:=by obtain⟨G,hG,-,hP⟩:=hl;obtain⟨b,o,c,e,hld⟩:=hG.pos jb;exact⟨b,o,c,G j,e,hld j hj,hP j hj,jb⟩
def acv{σ0 σ:St}(hW0:WF σ0)(hf:Fr σ0 σ){rb bc n:Nat}{o:Option (Nat×Nat)}{c:Cap}{f:Int->Rat}(hrb:σ0.aj<=rb)(hbc:σ0.aj<=bc)(hr:rM σ.h rb bc n o c f)
  (l:fZ) (v:B) (hL:Io σ0.h v l) (m x:Rat){D k:Nat}(hD:BN D) (hl:Oq D n l) (hs:Ot D l m x) (hm:Sz m) (hZ:∀c,Zk D k (f c)) (hk:k+dH l<=256^uK):
  aC EN 141 [.c v,.agg [.bool (rn m),.str (rs m),.str (rd m)],.agg [.bool (rn x),.str (rs x),.str (rd x)],.c (.ptr rb 0)] σ λ_ σ'=>rM σ'.h rb bc n o c (λc=>f c+jU l m x c)/\(∀c,Zk D (k+dH l) (f c+jU l m x c))/\aU [rb,bc] σ σ':=by
 refine aP (kJ.o _ _) kJ.h ?_
 unfold kJ
 dsimp only
 have l0:=hf.wf.lt hr.r
 have l1:=hf.wf.lt hr.c
 have hlen:=hL.choose_spec.1.len
 simp(disch:=try exact jz) only[go_sem,z3,hlen]
 have hF:=Fr.new (Fr.new (Fr.refl hf.wf) ⟨[.bool (rn m),.str (rs m),.str (rd m)],none⟩) ⟨[.bool (rn x),.str (rs x),.str (rd x)],none⟩
 refine(UE l v m _ hF.wf (hL.fr hW0 (hf.trans hF)) (λi hi=>hl.st _ (gy hi)) hs.cum hl.len).mono ?_
 rintro _ σ2 ⟨rfl,hf2⟩
 have hF2:=hF.trans hf2
 have hp2:σ2.h (σ.aj+1)=some ⟨[.bool (rn x),.str (rs x),.str (rd x)],none⟩:=hf2.get hF.wf (aA _ _ _)
 have hl2:σ.aj+1+1<=σ2.aj:=hf2.le
 simp(disch:=try exact jz) only[go_sem,z3,hlen]
 refine aH (λhlt=>?_) (λhlt=>?_)
 .obtain⟨b,o',c',G,rfl,hld,hP,-⟩:=hL.tier hlt
  have hb0:=hW0.dw hld
  have hld:=hF2.ld hf.wf (hf.ld hW0 hld)
  unfold jV at hld
  have hb:=hF2.wf.dw hld
  have Kw:=gy hlt
  simp(disch:=try exact jz) only[go_sem,z3,hld,ak hp2,hP.kn]
  refine aC.st (Fr σ2) (by have hW2:=hF2.wf;exact fr) λhF3=>?_
  have oO:=hF2.trans hF3
  have hnp:=Om l hlt
  refine(acu hW0 (hf.trans oO) hrb hbc (hr.fr hf.wf oO) (ix l (dP l m)) G hP x hs.sx (hl.st _ Kw) (hs.ne hlt) (hs.q hlt) hD hZ (λp hp=>⟨hl.id _ Kw p hp,hl.sp _ Kw p hp,hs.z hlt p hp⟩) (aw jb hk) (hl.tl _ Kw)).mono ?_
  rintro _ σ4 ⟨hr4,hZ4,hf4⟩
  have e:shF f (ix l (dP l m)) (x/aV (ix l (dP l m)))=λc=>f c+jU l m x c:=by funext c;rw[Ep,ab hlt];rfl
  rw[e]at hr4 hZ4
  simp(disch:=try exact jz) only[go_sem,z3]
  exact⟨hr4,λc=>(hZ4 c).mono jb,(oO.ex _).trans hf4⟩
 .have e:(λc=>f c+jU l m x c)=f:=by funext c;rw[Ep,ae hlt,cQ]
  have e2:∀c,f c+jU l m x c=f c:=λc=>cf e c
  simp(disch:=try exact jz) only[go_sem,z3,e,e2]
  have hr2:=hr.fr hf.wf hF2
  have b0:=hF2.wf.lt hr2.r
  have b1:=hF2.wf.lt hr2.c
  refine⟨hr2.set2 jb jb,λc=>(hZ c).mono jb,Fr.ex (by have hW2:=hF2.wf;exact fr) _⟩
def aoV{σ:St}(hW:WF σ)(l:fZ)(v:B)(hL:Io σ.h v l)(m:Rat)(hl:l.length<=1000000)(hst:∀t∈l,Sz (aV t))(hs:∀k,k<=l.length->Sz (m-BK l k)):
  aC EN 182 [.c v,.agg [.bool (rn m),.str (rs m),.str (rd m)]] σ λr σ'=>r=(match mV l m with|some g=>.aX (.agg [.bool (rn g),.str (rs g),.str (rd g)]) (.aX (.c (.bool true)) .tnil)|none=>.aX (.agg [.bool (rn 0),.str (rs 0),.str (rd 0)]) (.aX (.c (.bool false)) .tnil))/\Fr σ σ':=by
 refine aP (mM.o _ _) mM.h ?_
 unfold mM
 dsimp only
 have hlen:=hL.choose_spec.1.len
 simp(disch:=try exact jz) only[go_sem,z3,hlen]
 have hF:=Fr.new (Fr.new (Fr.refl hW) ⟨[.bool (rn m),.str (rs m),.str (rd m)],none⟩) ⟨[.bool (rn 0),.str (rs 0),.str (rd 0)],none⟩
 refine(UE l v m _ hF.wf (hL.fr hW hF) (λi hi=>hst _ (gy hi)) hs hl).mono ?_
 rintro _ σ2 ⟨rfl,hf2⟩
 have hF2:=hF.trans hf2
 have hp2:σ2.h (σ.aj+1)=some ⟨[.bool (rn 0),.str (rs 0),.str (rd 0)],none⟩:=hf2.get hF.wf (aA _ _ _)
 have hl2:σ.aj+1+1<=σ2.aj:=hf2.le
 have hfl:=Ob l m
 rw[aeN]
 simp(disch:=try exact jz) only[go_sem,z3,hlen]
 refine aH (λhlt=>?_) (λhlt=>?_)
 .rw[ae jb]
  simp(disch:=try exact jz) only[go_sem,z3,ak hp2,aJ hp2,hp2]
  exact fr
 .have hlt:dP l m<l.length:=jb
  rw[ab hlt]
  obtain⟨b,o',c',G,rfl,hld,hP,-⟩:=hL.tier hlt
  have hld:=hF2.ld hW hld
  unfold jV at hld
  have hb:=hF2.wf.dw hld
  have Kw:=hst _ (gy hlt)
  have hlm:Sz (jG l m):=by rw[Oo];exact hs _ hfl
  simp(disch:=try exact jz) only[go_sem,z3,hld,yX hld,ak hp2,aJ hp2,hp2]
  exact fr
def Jy(f:Int->Rat)(l:fZ)(c:Int):Rat:=f c+lT l c
def aie(f:Int->Rat):Jy f []=f:=by funext c;show f c+0=f c;grind
def aeO(f:Int->Rat)(l:fZ)(t:dO):shF (Jy f l) t 1=Jy f (l++[t]):=by funext c;unfold shF Jy;rw[Eo];grind
def aoW{σ0 σ:St}(hW0:WF σ0)(hf:Fr σ0 σ){rb bc n:Nat}{o:Option (Nat×Nat)}{c:Cap}{f:Int->Rat}(hrb:σ0.aj<=rb)(hbc:σ0.aj<=bc)(hr:rM σ.h rb bc n o c f)
  (l:fZ) (v:B) (hL:Io σ0.h v l) (m:Rat){D k:Nat}(hD:BN D) (hl:Oq D n l) (hs:Ot D l m (jG l m)) (hm:Sz m) (hZ:∀c,Zk D k (f c)) (hk:k+dH l<=256^uK) (hpos:0<l.length):
  aC EN 96 [.c v,.agg [.bool (rn m),.str (rs m),.str (rd m)],.c (.ptr rb 0)] σ λ_ σ'=>rM σ'.h rb bc n o c (λc=>f c+gZ l m c)/\(∀c,Zk D (k+dH l) (f c+gZ l m c))/\aU [rb,bc] σ σ':=by
 refine aP (l9.o _ _) l9.h ?_
 unfold l9
 dsimp only
 have l0:=hf.wf.lt hr.r
 have l1:=hf.wf.lt hr.c
 have hlen:=hL.choose_spec.1.len
 simp(disch:=try exact jz) only[go_sem,z3,hlen]
 have hF:=Fr.new (Fr.refl hf.wf) ⟨[.bool (rn m),.str (rs m),.str (rd m)],none⟩
 refine(UE l v m _ hF.wf (hL.fr hW0 (hf.trans hF)) (λi hi=>hl.st _ (gy hi)) hs.cum hl.len).mono ?_
 rintro _ σ2 ⟨rfl,hf2⟩
 have hF2:=hF.trans hf2
 have hl2:σ.aj+1<=σ2.aj:=hf2.le
 have hfl:=Ob l m
 have hll:=hl.len
 obtain⟨G,hG,hcap,hP⟩:=hL
 obtain⟨b,o',c0,rfl,vJ⟩:=hG.pos hpos
 obtain⟨v',hv',-,⟨h0,-⟩|⟨b2,o2,c2,c',h2,rfl⟩⟩:=aq6 hcap (.inr ⟨b,o',c0,rfl,hpos⟩) hfl 4
 .omega
 cases h2
 simp(disch:=try exact jz) only[go_sem,z3,hlen,hv']
 refine bF.st (Fr σ2) (by have hW2:=hF2.wf;exact fr) λhF3=>?_
 have oO:=hF2.trans hF3
 refine aF (λq tm σ'=>∃j,q=dP l m-j/\j<=dP l m/\Tr.ah tm 0=.c (.sl b o' l.length c0)/\Tr.ah tm 2=.c (.ptr rb 0)/\Tr.ah tm 6=.c (.int .i64 (.ofNat (dP l m)))/\Tr.ah tm 7=.c (.ptr σ2.aj 0)
  /\Tr.ah tm 20=.c (.sl b o' (dP l m) c')/\Tr.ah tm 21=.c (.int .i64 (.ofNat (dP l m)))/\Tr.ah tm 22=.c (.int .i64 (.ofNat j))
  /\σ'.h σ2.aj=some ⟨[.bool (rn (jG l m)),.str (rs (jG l m)),.str (rd (jG l m))],none⟩/\rM σ'.h rb bc n o c (Jy f (l.take j))/\(∀c,Zk D (k+dH (l.take j)) (Jy f (l.take j) c))/\aU [rb,bc] σ σ'/\σ2.aj+1<=σ'.aj) (dP l m) ?_ ?_
 .refine⟨0,jb,jb,?_⟩
  simp(disch:=try exact jz) only[go_sem,z3,am,cI,aie]
  exact⟨hr.fr hf.wf oO,λc=>(hZ c).mono jb,oO.ex _,jp⟩
 .rintro q tm σ' ⟨j,rfl,hj,t0,t2,t6,t7,t20,t21,t22,hq,hr',hZ',hf',hnx⟩
  simp(disch:=try exact jz) only[go_sem,z3,t0,t2,t6,t7,t20,t21,t22]
  refine aH (λhlt=>?_) (λhlt=>?_)
  .have hjl:j<l.length:=jb
   have Kw:=gy hjl
   have Es:=hP j hjl
   have htl:=hl.tl _ Kw
   have hpl:=Es.len
   have aeP:=vJ j hjl
   have hb0:=hW0.dw aeP
   have hld:=hf'.ld hf.wf (by simp;omega) (hf.ld hW0 aeP)
   unfold jV at hld
   have hb:=hf'.wf.dw hld
   simp(disch:=try exact jz) only[go_sem,z3,t0,t2,t6,t7,t20,t21,t22,hld,Es.kn,hpl]
   refine bF.st (Fr σ') (by have hW2:=hf'.wf;exact fr) λiE=>?_
   refine aF (λq tm σ3=>∃i,q=(ix l j).length-i/\i<=(ix l j).length/\Tr.ah tm 0=.c (.sl b o' l.length c0)/\Tr.ah tm 2=.c (.ptr rb 0)/\Tr.ah tm 6=.c (.int .i64 (.ofNat (dP l m)))/\Tr.ah tm 7=.c (.ptr σ2.aj 0)
    /\Tr.ah tm 20=.c (.sl b o' (dP l m) c')/\Tr.ah tm 21=.c (.int .i64 (.ofNat (dP l m)))/\Tr.ah tm 22=.c (.int .i64 (.ofNat j))/\Tr.ah tm 27=.c (G j)/\Tr.ah tm 28=.c (.int .i64 (.ofNat (ix l j).length))/\Tr.ah tm 29=.c (.int .i64 (.ofNat i))
    /\rM σ3.h rb bc n o c (shF (Jy f (l.take j)) ((ix l j).take i) 1)/\(∀c,Zk D (k+dH (l.take j)+i) (shF (Jy f (l.take j)) ((ix l j).take i) 1 c))/\aU [rb,bc] σ' σ3) (ix l j).length ?_ ?_
   .refine⟨0,jb,jb,?_⟩
    simp(disch:=try exact jz) only[go_sem,z3,t0,t2,t6,t7,t20,t21,t22,am,cI,acs]
    exact⟨hr'.fr hf'.wf iE,hZ',iE.ex _⟩
   .rintro q Wj σ3 ⟨i,rfl,hi,t0,t2,t6,t7,t20,t21,t22,t27,t28,t29,hr3,hZ3,hf3⟩
    simp(disch:=try exact jz) only[go_sem,z3,t0,t2,t6,t7,t20,t21,t22,t27,t28,t29]
    refine aH (λhli=>?_) (λhli=>?_)
    .obtain⟨b3,o3,c3,e3,uO⟩:=Es.pos jb
     rw[e3]at t27
     have uO:=uO i hli
     have hb3:=hW0.dw uO
     have hlx:=(hf'.trans hf3).ld hf.wf (by simp;omega) (hf.ld hW0 uO)
     unfold zZ at hlx
     have hb4:=hf3.wf.dw hlx
     have hsn:=XH (Jy f (l.take j)) ((ix l j).take i) (ix (ix l j) i) 1
     rw[<-take_snoc hli,Rat.mul_one]at hsn
     have hpm:=gy hli
     have hid:=hl.id _ Kw _ hpm
     have hsp:=hl.sp _ Kw _ hpm
     have hzp:=hl.zp _ Kw _ hpm
     have hnp:=Om l hjl
     generalize ix (ix l j) i=p at*
     simp(disch:=try exact jz) only[go_sem,z3,t0,t2,t6,t7,t20,t21,t22,t27,t28,t29,hlx]
     refine aC.st (Fr σ3) (by have hW2:=hf3.wf;exact fr) λlQ=>?_
     refine(aoU lQ.wf (hr3.fr hf3.wf lQ) _ hsp _ ((hZ3 _).sz hD (aw jb hk)) hid).mono ?_
     rintro _ σ5 ⟨hr5,hf5⟩
     rw[hsn]at hr5
     simp(disch:=try exact jz) only[go_sem,z3,t0,t2,t6,t7,t20,t21,t22,t27,t28,t29]
     refine⟨(ix l j).length-(i+1),jb,i+1,rfl,jb,e3.symm▸rfl,rfl,hr5,λc=>?_,hf3.trans ((lQ.ex _).trans hf5)⟩
     rw[<-hsn]
     refine(hZ3 c).add (l:=1) ?_
     split
     .exact hzp
     .exact Zk.zero
    .have:i=(ix l j).length:=jb
     subst this
     rw[cn,aeO,<-take_snoc hjl]at hr3 hZ3
     have hnp:=Oj (l.take j) (ix l j)
     rw[<-take_snoc hjl]at hnp
     have hfx:=hf3.le
     have hqx:=hf3.get hf'.wf (show¬σ2.aj∈[rb,bc] by simp;omega) hq
     simp(disch:=try exact jz) only[go_sem,z3,t0,t2,t6,t7,t20,t21,t22,t27,t28,t29]
     exact⟨dP l m-(j+1),jb,j+1,rfl,jb,rfl,hqx,hr3,λc=>(hZ3 c).mono jb,hf'.trans hf3,jb⟩
  .have:j=dP l m:=jb
   subst this
   simp(disch:=try exact jz) only[go_sem,z3,t0,t2,t6,t7,t20,t21,t22]
   refine aH (λhlf=>?_) (λhlf=>?_)
   .have Kw:=gy hlf
    have aeP:=vJ _ hlf
    have hb0:=hW0.dw aeP
    have hld:=hf'.ld hf.wf (by simp;omega) (hf.ld hW0 aeP)
    unfold jV at hld
    have hb:=hf'.wf.dw hld
    have hnp:=Om l hlf
    simp(disch:=try exact jz) only[go_sem,z3,t0,t2,t6,t7,t20,t21,t22,hld,ak hq,(hP _ hlf).kn]
    refine(acu hW0 (hf'.to hf (by simp;omega)) hrb hbc hr' (ix l (dP l m)) (G (dP l m)) (hP _ hlf) (jG l m) hs.sx (hl.st _ Kw) (hs.ne hlf) (hs.q hlf) hD hZ' (λp hp=>⟨hl.id _ Kw p hp,hl.sp _ Kw p hp,hs.z hlf p hp⟩) (aw jb hk) (hl.tl _ Kw)).mono ?_
    rintro _ σ4 ⟨hr4,hZ4,hf5⟩
    have e:shF (Jy f (l.take (dP l m))) (ix l (dP l m)) (jG l m/aV (ix l (dP l m)))=λc=>f c+gZ l m c:=by funext c;rw[Jw,ab hlf];unfold shF Jy;grind
    rw[e]at hr4 hZ4
    simp(disch:=try exact jz) only[go_sem,z3]
    exact⟨hr4,λc=>(hZ4 c).mono jb,hf'.trans hf5⟩
   .have e:Jy f (l.take (dP l m))=λc=>f c+gZ l m c:=by funext c;rw[Jw,ae hlf];unfold Jy;grind
    have hnp:=Ol l (dP l m)
    rw[e]at hr' hZ'
    simp(disch:=try exact jz) only[go_sem,z3]
    exact⟨hr',λc=>(hZ' c).mono jb,hf'⟩
theorem mX{α:Type}(l:List α)(a:α)(f:α->Rat):aI (l++[a]) f=aI l f+f a:=by
 induction l with
 |nil=>show f a+0=0+f a;grind
 |cons b l ih=>show f b+aI (l++[a]) f=f b+aI l f+f a;rw[ih];grind
def UJ{α:Type}{D k:Nat}{f:α->Rat}:∀{l:List α},(∀a∈l,Zk D k (f a))->Zk D (k*l.length) (aI l f)
 |[],_=>Zk.zero
 |a::l,h=>by have:=(h a kc).add (UJ (l:=l) λb hb=>h b (by simp[hb]));rw[bZ,Nat.mul_succ,fm];exact this
def aif{α:Type}{l:List α}{a:α}{j:Nat}(h:a∈l.take j):a∈l:=eo h
def P6(ms:List Nat)(i:Nat):B:=.int .i64 (.ofNat (ix ms i))
def Ip{σ:St}(hW:WF σ){n:Nat}(ms:List Nat)(mv lv rv:B)(f:Nat->Rat)(hm:HC σ.h mv ms.length (P6 ms))(hv:HL σ.h 3 rv n λi=>dQ (f i))(hms:∀i∈ms,i<n)(hl:ms.length<=1000000)
  {D k:Nat}(hD:BN D) (hZ:∀i,i<n->Zk D k (f i)) (hk:k*(ms.length+1)<=256^uK):
  aC EN 97 [.agg [mv,lv],.c rv] σ λr σ'=>r=.agg [.bool (rn (aI ms f)),.str (rs (aI ms f)),.str (rd (aI ms f))]/\Fr σ σ':=by
 refine aP (mF.o _ _) mF.h ?_
 unfold mF
 dsimp only
 have hlen:=hm.len
 simp(disch:=try exact jz) only[go_sem,z3,hlen,hm.kn]
 refine bF.st (Fr σ) (fr) λhF=>?_
 refine aF (λq tm σ'=>∃j,q=ms.length-j/\j<=ms.length/\Tr.ah tm 1=.c rv/\Tr.ah tm 4=.c (.ptr (σ.aj+1) 0)/\Tr.ah tm 5=.c (.ptr (σ.aj+1+1) 0)/\Tr.ah tm 10=.c mv/\Tr.ah tm 11=.c (.int .i64 (.ofNat ms.length))/\Tr.ah tm 12=.c (.int .i64 (.ofNat j))
  /\σ'.h (σ.aj+1)=some ⟨[.bool (rn 0),.str (rs 0),.str (rd 0)],none⟩/\σ'.h (σ.aj+1+1)=some ⟨[.bool (rn (aI (ms.take j) f)),.str (rs (aI (ms.take j) f)),.str (rd (aI (ms.take j) f))],none⟩/\Fr σ σ'/\σ.aj+3<=σ'.aj) ms.length ?_ ?_
 .refine⟨0,jb,jb,?_⟩
  simp(disch:=try exact jz) only[go_sem,z3,am,cI,show aI ([]:List Nat) f=0 from rfl]
  exact⟨hF,jb⟩
 .rintro q tm σ' ⟨j,rfl,hj,t1,t4,t5,t10,t11,t12,hq1,hq2,hf',hnx⟩
  simp(disch:=try exact jz) only[go_sem,z3,t1,t4,t5,t10,t11,t12]
  refine aH (λhlt=>?_) (λhlt=>?_)
  .obtain⟨b,o,c,rfl,hld⟩:=hm.pos jb
   have hld:=hf'.ld hW (hld j hlt)
   have hn:=hms _ (gy hlt)
   obtain⟨b2,o2,c2,rfl,EM⟩:=hv.pos jb
   have EM:=hf'.ld hW (EM _ hn)
   have hb2:=hf'.wf.dw EM
   unfold P6 at hld
   unfold dQ at EM
   have hsn:=mX (ms.take j) (ix ms j) f
   rw[<-take_snoc hlt]at hsn
   have hz1:Sz (f (ix ms j)):=(hZ _ hn).sz hD (aw (gd _ jb) hk)
   have hz2:Sz (aI (ms.take j) f):=(UJ λa ha=>hZ a (hms a (aif ha))).sz hD (aw (cA _ (by rw[di];omega)) hk)
   simp(disch:=try exact jz) only[go_sem,z3,t1,t4,t5,t10,t11,t12,hld,EM,ak hq2,hq1,hq2,aJ hq2,<-hsn]
   refine⟨ms.length-(j+1),jb,j+1,rfl,jb,rfl,rfl,?_,jb⟩
   exact fr
  .have:j=ms.length:=jb
   subst this
   rw[cn]at hq2
   simp(disch:=try exact jz) only[go_sem,z3,t1,t4,t5,t10,t11,t12,ak hq2,hq1,aJ hq1]
   exact fr
structure Jz(h:Tr Bk)(rv pv:B)(e:eY):Prop where
 rk:Io h rv e.rk
 ps:∃Gm Gl:Nat->B,HL h 2 pv e.ps.length (λi=>[Gm i,Gl i])/\∀i,i<e.ps.length->HC h (Gm i) (ix e.ps i).1.length (P6 (ix e.ps i).1)/\Io h (Gl i) (ix e.ps i).2
theorem Jz.fr{σ σ':St}(hW:WF σ)(hf:Fr σ σ'){rv pv:B}{e:eY}(h:Jz σ.h rv pv e):Jz σ'.h rv pv e:=by obtain⟨h1,Gm,Gl,h2,h3⟩:=h;exact⟨h1.fr hW hf,Gm,Gl,h2.fr hW hf,λi hi=>⟨(h3 i hi).1.fr hW hf,(h3 i hi).2.fr hW hf⟩⟩
def jE(n:Nat)(rv pv:B)(t:Rat):List B:=[.int .i64 (.ofNat n),rv,pv,.bool (rn t),.str (rs t),.str (rd t)]
def Io.kn{h:Tr Bk}{v:B}{l:fZ}(hl:Io h v l):v.kn=true:=hl.choose_spec.1.kn
def Jz.VI{h:Tr Bk}{rv pv:B}{e:eY}(hl:Jz h rv pv e):pv.kn=true:=by obtain⟨_,Gm,Gl,h2,h3⟩:=hl;exact h2.kn
structure avl(σ σ':St)(r:V)(n:Nat)(f:Nat->Rat)(b:Nat):Prop where
 r:r=.c (.sl b 0 n (.ex n))
 c:σ'.h b=some ⟨bU n f,none⟩
 b:σ.aj<=b
def Lm{σ:St}(hW:WF σ){n:Nat}{rv pv:B}(t:Rat)(e:eY)(hL:Jz σ.h rv pv e)(m:Rat){D:Nat}(hD:BN D)(hn:n<=1000000)(hl:Oq D n e.rk)(hs:Ot D e.rk m (jG e.rk m))(hm:Sz m)(hk:dH e.rk<=256^uK)(hpos:0<e.rk.length):
  aC EN 57 [.agg (jE n rv pv t),.agg [.bool (rn m),.str (rs m),.str (rd m)]] σ λr σ'=>(∃b,avl σ σ' r n (λi=>y7 e m i) b)/\(∀i:Nat,Zk D (dH e.rk) (y7 e m i))/\Fr σ σ':=by
 refine aP (jZ.o _ _) jZ.h ?_
 unfold jZ jE
 dsimp only
 simp(disch:=try exact jz) only[go_sem,z3,hL.rk.kn]
 refine aC.st (Fr σ) (fr) λhF=>?_
 refine(aoW (f:=λ_=>0) (k:=0) hW hF jb jb ⟨aA _ _ _,(au _ _ _ _ jb).trans (aA _ _ _),rfl,rfl,jb⟩ e.rk rv hL.rk m hD hl hs hm (λ_=>Zk.zero) jb hpos).mono ?_
 rintro _ σ2 ⟨hr2,hZ2,hf2⟩
 have hz:(λc=>(0:Rat)+gZ e.rk m c)=gZ e.rk m:=by funext c;grind
 have hz2:∀c,(0:Rat)+gZ e.rk m c=gZ e.rk m c:=λc=>by grind
 rw[hz]at hr2
 simp only[hz2,cK]at hZ2
 have h5:=hr2.r
 simp(disch:=try exact jz) only[go_sem,z3,ak h5]
 exact⟨⟨_,rfl,hr2.c,jb⟩,λi=>hZ2 i,hf2.to hF (by simp;omega)⟩
def acy{σ:St}(hW:WF σ){n:Nat}{rv pv:B}(t:Rat)(e:eY)(hL:Jz σ.h rv pv e)(m:Rat){D:Nat}(hD:BN D)(hn:n<=1000000)(hl:Oq D n e.rk)(hs:Ot D e.rk m 1)(hm:Sz m)(hk:dH e.rk<=256^uK):
  aC EN 140 [.agg (jE n rv pv t),.agg [.bool (rn m),.str (rs m),.str (rd m)]] σ λr σ'=>(∃b,avl σ σ' r n (λi=>rts e m i) b)/\(∀i:Nat,Zk D (dH e.rk) (rts e m i))/\Fr σ σ':=by
 refine aP (kH.o _ _) kH.h ?_
 unfold kH jE
 dsimp only
 simp(disch:=try exact jz) only[go_sem,z3,hL.rk.kn]
 refine aC.st (Fr σ) (fr) λhF=>?_
 refine(acv (f:=λ_=>0) (k:=0) hW hF jb jb ⟨aA _ _ _,(au _ _ _ _ jb).trans (aA _ _ _),rfl,rfl,jb⟩ e.rk rv hL.rk m 1 hD hl hs hm (λ_=>Zk.zero) jb).mono ?_
 rintro _ σ2 ⟨hr2,hZ2,hf2⟩
 have hz:(λc=>(0:Rat)+jU e.rk m 1 c)=jU e.rk m 1:=by funext c;grind
 have hz2:∀c,(0:Rat)+jU e.rk m 1 c=jU e.rk m 1 c:=λc=>by grind
 rw[hz]at hr2
 simp only[hz2,cK]at hZ2
 have h5:=hr2.r
 simp(disch:=try exact jz) only[go_sem,z3,ak h5]
 exact⟨⟨_,rfl,hr2.c,jb⟩,λi=>hZ2 i,hf2.to hF (by simp;omega)⟩
def acz{σ:St}(hW:WF σ){n b:Nat}{c:Cap}{f:Nat->Rat}(hb:σ.h b=some ⟨bU n f,none⟩)(hn:n<=1000000):
  aC EN 55 [.c (.sl b 0 n c)] σ λr σ'=>(∃b' c' o',r=.c (.sl b' 0 n c')/\σ'.h b'=some ⟨bU n f,o'⟩/\plo o'=true/\YT o'=true/\σ.aj<=b'/\b'<σ'.aj)/\Fr σ σ':=by
 refine aP (iK.o _ _) iK.h ?_
 unfold iK
 dsimp only
 have hbl:=hW.lt hb
 by_cases h0:n=0
 .subst h0
  simp(disch:=try exact jz) only[go_sem,z3,hb]
  refine⟨⟨σ.aj,_,none,rfl,aA _ _ _,rfl,rfl,jp,cg _⟩,?_⟩
  exact fr
 .simp(disch:=try exact jz) only[go_sem,z3,hb]
  refine⟨⟨σ.aj+1,_,_,rfl,aA _ _ _,rfl,rfl,jb,cg _⟩,?_⟩
  exact fr
def zF(l:List Nat)(f:Nat->Rat):Int->Rat:=λi=>if 0<=i then(if l.contains i.toNat then 0 else f i.toNat)else 0
def Ou(l:List Nat)(f:Nat->Rat):zF l f (-1)=0:=ae jb
def UK(l:List Nat)(f:Nat->Rat)(i:Nat):zF l f i=if l.contains i then 0 else f i:=by unfold zF;rw[ab jb,gw]
def amR(l:List Nat)(f:Nat->Rat)(k n:Nat):bU n (aN (λi=>zF l f i) k 0)=bU n λi=>zF (l++[k]) f i:=by
 refine dA λi _=>?_;show(if i=k then 0 else zF l f i)=_;rw[UK,UK,List.contains_append];by_cases h:i=k
 .subst h;simp
 .rw[ae h];simp[h]
def flat(ps:List (List Nat×fZ)):List Nat:=ps.flatMap λp=>p.1
def aeQ(ps:List (List Nat×fZ))(p:List Nat×fZ):flat (ps++[p])=flat ps++p.1:=by unfold flat;simp
def J8(e:eY)(c:Nat):(flat e.ps).contains c=pooled e c:=by
 unfold flat pooled;induction e.ps with
 |nil=>rfl
 |cons p l ih=>rw[ga,List.contains_append,List.any_cons,ih]
def aii{σ:St}(hW:WF σ){n b:Nat}{rv pv:B}(t:Rat)(e:eY)(hL:Jz σ.h rv pv e){f:Nat->Rat}(hb:σ.h b=some ⟨bU n f,none⟩){c:Cap}(hn:n<=1000000)(hp:e.ps.length<=1000000)(hm:∀p∈e.ps,p.1.length<=1000000/\∀i∈p.1,i<n):
  aC EN 95 [.agg (jE n rv pv t),.c (.sl b 0 n c)] σ λr σ'=>(∃rb bc o c',r=.c (.ptr rb 0)/\rM σ'.h rb bc n o c' (zF (flat e.ps) f)/\σ.aj<=rb/\σ.aj<=bc)/\Fr σ σ':=by
 refine aP (kZ.o _ _) kZ.h ?_
 unfold kZ jE
 dsimp only
 simp(disch:=try exact jz) only[go_sem,z3]
 refine aC.st (Fr σ) (fr) λhF=>?_
 refine(acz hF.wf (hF.get hW hb) hn).mono ?_
 rintro _ σ2 ⟨⟨bc,c',o,rfl,h2,hpl,hrd,hbc,hbc2⟩,hf2⟩
 have hF2:=hF.trans hf2
 obtain⟨-,Gm,Gl,hG,hP⟩:=hL
 have hlen:=hG.len
 have hbox:σ2.h σ.aj=some ⟨[.int .i64 (.ofNat n),rv,pv,.bool (rn t),.str (rs t),.str (rd t)],none⟩:=hf2.get hF.wf (aA _ _ _)
 have hl2:σ.aj+1<=σ2.aj:=hf2.le
 have hbc:σ.aj+1<=bc:=hbc
 simp(disch:=try exact jz) only[go_sem,z3,ak hbox,hlen,hG.kn]
 refine aF (λq tm σ'=>∃j,q=e.ps.length-j/\j<=e.ps.length/\Tr.ah tm 5=.c (.ptr σ2.aj 0)/\Tr.ah tm 15=.c pv/\Tr.ah tm 16=.c (.int .i64 (.ofNat e.ps.length))/\Tr.ah tm 17=.c (.int .i64 (.ofNat j))
  /\rM σ'.h σ2.aj bc n o c' (zF (flat (e.ps.take j)) f)/\Fr σ σ'/\σ2.aj+1<=σ'.aj) e.ps.length ?_ ?_
 .refine⟨0,jb,jb,?_⟩
  simp(disch:=try exact jz) only[go_sem,z3,am,cI]
  refine⟨⟨?_,?_,hpl,hrd,jb⟩,?_,jp⟩
  .rw[aA,Ou]
  .rw[au _ _ _ _ jb,h2]
   congr 2
  .exact fr
 .rintro q tm σ' ⟨j,rfl,hj,t5,t15,t16,t17,hr,hf',hnx⟩
  simp(disch:=try exact jz) only[go_sem,z3,t5,t15,t16,t17]
  refine aH (λhlt=>?_) (λhlt=>?_)
  .obtain⟨b2,o2,c2,rfl,hld⟩:=hG.pos jb
   have hld:=hf'.ld hW (hld j hlt)
   have hb2:=hf'.wf.dw hld
   have Es:=hP j hlt
   have hpl2:=Es.1.len
   have hmj:=hm _ (gy hlt)
   have hfs:=aeQ (e.ps.take j) (ix e.ps j)
   rw[<-take_snoc hlt]at hfs
   generalize ix e.ps j=p at*
   simp(disch:=try exact jz) only[go_sem,z3,t5,t15,t16,t17,hld,Es.1.kn,Es.2.kn,hpl2]
   refine bF.st (Fr σ') (by have hW2:=hf'.wf;exact fr) λiE=>?_
   refine aF (λq tm σ3=>∃i,q=p.1.length-i/\i<=p.1.length/\Tr.ah tm 5=.c (.ptr σ2.aj 0)/\Tr.ah tm 15=.c (.sl b2 o2 e.ps.length c2)/\Tr.ah tm 16=.c (.int .i64 (.ofNat e.ps.length))/\Tr.ah tm 17=.c (.int .i64 (.ofNat j))
    /\Tr.ah tm 22=.c (Gm j)/\Tr.ah tm 23=.c (.int .i64 (.ofNat p.1.length))/\Tr.ah tm 24=.c (.int .i64 (.ofNat i))
    /\rM σ3.h σ2.aj bc n o c' (zF (flat (e.ps.take j)++p.1.take i) f)/\Fr σ σ3/\σ2.aj+1<=σ3.aj) p.1.length ?_ ?_
   .refine⟨0,jb,jb,?_⟩
    simp(disch:=try exact jz) only[go_sem,z3,t5,t15,t16,t17,am,cI,dt]
    exact⟨hr.fr hf'.wf iE,hf'.trans iE,jb⟩
   .rintro q Wj σ3 ⟨i,rfl,hi,t5,t15,t16,t17,t22,t23,t24,hr3,hf3,hn3⟩
    simp(disch:=try exact jz) only[go_sem,z3,t5,t15,t16,t17,t22,t23,t24]
    refine aH (λhli=>?_) (λhli=>?_)
    .obtain⟨b3,o3,c3,e3,uO⟩:=Es.1.pos jb
     rw[e3]at t22
     have uO:=hf3.ld hW (uO i hli)
     unfold P6 at uO
     have hin:=hmj.2 _ (gy hli)
     have hzs:=amR (flat (e.ps.take j)++p.1.take i) f (ix p.1 i) n
     rw[ii,<-take_snoc hli]at hzs
     have avm:=hr3.r
     have avn:=hr3.c
     have hb3:=hf3.wf.lt avn
     simp(disch:=try exact jz) only[go_sem,z3,t5,t15,t16,t17,t22,t23,t24,uO,ak avm,aJ avn,hpl,hzs]
     refine⟨p.1.length-(i+1),jb,i+1,rfl,jb,e3.symm▸rfl,rfl,⟨?_,aA _ _ _,hpl,hrd,jb⟩,?_,jb⟩
     .rw[au _ _ _ _ jb,avm,Ou,Ou]
     .exact fr
    .have:i=p.1.length:=jb
     subst this
     rw[cn,<-hfs]at hr3
     simp(disch:=try exact jz) only[go_sem,z3,t5,t15,t16,t17,t22,t23,t24]
     exact⟨e.ps.length-(j+1),jb,j+1,rfl,jb,rfl,hr3,hf3,jb⟩
  .have:j=e.ps.length:=jb
   subst this
   rw[cn]at hr
   simp(disch:=try exact jz) only[go_sem,z3,t5,t15,t16,t17]
   exact⟨⟨_,_,_,_,rfl,hr,jb,jb⟩,hf'⟩
end Go.Proofs.Xe
