import Derived.Test.YtchhojplceoifaaGreatDoorYc19
set_option linter.all false
set_option maxRecDepth 100000
namespace Go.Proofs.Xe
open Go.RowKit Go.Proofs.Ins
structure rJ(h:Tr Bk)(rb bc n:Nat)(o:Option (Nat×Nat))(c:Cap)(f:Int->Rat):Prop where
 r:h rb=some ⟨[.sl bc 0 n c,.bool (rn (f (-1))),.str (rs (f (-1))),.str (rd (f (-1)))],none⟩
 c:h bc=some ⟨bY n λi=>f i,o⟩
 pl:plo o=true
 rd:Y0 o=true
 ne:rb≠bc
def UW(f:Int->Rat)(k:Int)(q:Rat):Int->Rat:=λc=>f c+if c=k then q else 0
def rJ.set{h:Tr Bk}{rb bc n b:Nat}{o:Option (Nat×Nat)}{c:Cap}{f:Int->Rat}(hr:rJ h rb bc n o c f)(h1:rb≠b)(h2:bc≠b)(k:Bk):rJ (hset h b k) rb bc n o c f:=
 ⟨by rw[au _ _ _ _ h1];exact hr.r,by rw[au _ _ _ _ h2];exact hr.c,hr.pl,hr.rd,hr.ne⟩
def rJ.set2{h:Tr Bk}{rb bc n b:Nat}{o:Option (Nat×Nat)}{c:Cap}{f:Int->Rat}(hr:rJ h rb bc n o c f)(h1:rb≠b)(h2:bc≠b){k k':Bk}:rJ (hset (hset h b k) b k') rb bc n o c f:=(hr.set h1 h2 k).set h1 h2 k'
def avw{σ:St}(hW:WF σ){rb bc n:Nat}{o:Option (Nat×Nat)}{c:Cap}{f:Int->Rat}(hr:rJ σ.h rb bc n o c f)(q:Rat)(hq:Sz q)(hz:Sz (f (-1))):
  aC EN 186 [.c (.ptr rb 0),.c (.int .i64 (.negSucc 0)),.agg [.bool (rn q),.str (rs q),.str (rd q)]] σ λ_ σ'=>rJ σ'.h rb bc n o c (UW f (-1) q)/\aU [rb,bc] σ σ':=by
 refine aO (fU.o _ _) fU.h ?_
 unfold fU
 dsimp only
 obtain⟨h0,h1,hpl,hrd,hne⟩:=hr
 have l0:=hW.lt h0
 have l1:=hW.lt h1
 simp(disch:=try exact jz) only[go_sem,z3,ak h0,h0]
 refine⟨⟨?_,?_,hpl,hrd,hne⟩,?_⟩
 .rw[aA];simp[UW]
 .rw[au _ _ _ _ hne.symm,au _ _ _ _ jb,h1,dH]
  intro i _
  unfold UW
  rw[ae jb];grind
 .repeat(first|assumption|exact aU.refl (by assumption)|exact aU.up (by assumption) kf|exact aU.up (aU.refl (by assumption)) kf|refine aU.set1 ?_ kg kf|refine aU.kK ?_ kg|refine aU.nP ?_ kg|refine aU.oG ?_ kf)
def avx{σ:St}(hW:WF σ){rb bc n:Nat}{o:Option (Nat×Nat)}{c:Cap}{f:Int->Rat}(hr:rJ σ.h rb bc n o c f)(q:Rat)(hq:Sz q)(k:Nat)(hz:Sz (f k))(hk:k<n):
  aC EN 186 [.c (.ptr rb 0),.c (.int .i64 (.ofNat k)),.agg [.bool (rn q),.str (rs q),.str (rd q)]] σ λ_ σ'=>rJ σ'.h rb bc n o c (UW f k q)/\aU [rb,bc] σ σ':=by
 refine aO (fU.o _ _) fU.h ?_
 unfold fU
 dsimp only
 obtain⟨h0,h1,hpl,hrd,hne⟩:=hr
 have l0:=hW.lt h0
 have l1:=hW.lt h1
 simp(disch:=try exact jz) only[go_sem,z3,ak h0,ak h1,h0,h1,hrd,hpl]
 refine⟨⟨?_,?_,hpl,hrd,hne⟩,?_⟩
 .rw[au _ _ _ _ hne,au _ _ _ _ jb,h0]
  unfold UW
  rw[ae jb,da]
 .rw[aA]
  congr 2
  refine dH λi _=>?_
  unfold UW aN
  by_cases e:i=k
  .rw[ab e,ab jb,e]
  .rw[ae e,ae jb,da]
 .repeat(first|assumption|exact aU.refl (by assumption)|exact aU.up (by assumption) kf|exact aU.up (aU.refl (by assumption)) kf|refine aU.set1 ?_ kg kf|refine aU.kK ?_ kg|refine aU.nP ?_ kg|refine aU.oG ?_ kf)
def ao5{σ:St}(hW:WF σ){rb bc n:Nat}{o:Option (Nat×Nat)}{c:Cap}{f:Int->Rat}(hr:rJ σ.h rb bc n o c f)(q:Rat)(hq:Sz q)(k:Int)(hz:Sz (f k))(hk:k=-1\/(0<=k/\k<n)):
  aC EN 186 [.c (.ptr rb 0),.c (.int .i64 k),.agg [.bool (rn q),.str (rs q),.str (rd q)]] σ λ_ σ'=>rJ σ'.h rb bc n o c (UW f k q)/\aU [rb,bc] σ σ':=by
 rcases hk with rfl|⟨h1,h2⟩
 .exact avw hW hr q hq hz
 .obtain⟨j,rfl⟩:=cw h1
  exact avx hW hr q hq j hz jb
theorem rJ.fr{σ σ':St}{rb bc n:Nat}{o:Option (Nat×Nat)}{c:Cap}{f:Int->Rat}(hW:WF σ)(hf:Fr σ σ')(hr:rJ σ.h rb bc n o c f):rJ σ'.h rb bc n o c f:=
 ⟨hf.get hW hr.r,hf.get hW hr.c,hr.pl,hr.rd,hr.ne⟩
def u1:1<=256^uK:=du jj
def aeI(t:dZ)(p:Int×Rat)(c:Int):mF (t++[p]) c=mF t c+if c=p.1 then p.2 else 0:=by
 induction t with
 |nil=>
  show(if p.1=c then p.2 else 0)+0=0+if c=p.1 then p.2 else 0
  by_cases h:p.1=c
  .rw[ab h,ab h.symm];grind
  .rw[ae h,ae (Ne.symm h)]
 |cons r t ih=>
  show(if r.1=c then r.2 else 0)+mF (t++[p]) c=(if r.1=c then r.2 else 0)+mF t c+_
  rw[ih];grind
def shF(f:Int->Rat)(t:dZ)(u:Rat)(c:Int):Rat:=f c+mF t c*u
def acy(f:Int->Rat)(u:Rat):shF f [] u=f:=by funext c;show f c+0*u=f c;grind
def XO(f:Int->Rat)(t:dZ)(p:Int×Rat)(u:Rat):UW (shF f t u) p.1 (p.2*u)=shF f (t++[p]) u:=by funext c;unfold UW shF;rw[aeI];split<;>grind
theorem take_snoc{α:Type}[Inhabited α]{t:List α}{j:Nat}(h:j<t.length):t.take (j+1)=t.take j++[ix t j]:=by rw[bU h]
theorem gy{α:Type}[Inhabited α]{t:List α}{j:Nat}(h:j<t.length):ix t j∈t:=by rw[fE h];exact List.getElem_mem h
def acz{σ0 σ:St}(hW0:WF σ0)(hf:Fr σ0 σ){rb bc n:Nat}{o:Option (Nat×Nat)}{c:Cap}{f:Int->Rat}(hrb:σ0.aj<=rb)(hbc:σ0.aj<=bc)(hr:rJ σ.h rb bc n o c f)
  (t:dZ) (G:B) (hG:HL σ0.h 4 G t.length λj=>Aa (ix t j)) (x:Rat) (hx:Sz x) (hs:Sz (aW t)) (h0:aW t≠0) (hqz:Sz (x/aW t)){D k:Nat}(hD:Cb D) (hZ:∀c,Zk D k (f c))
  (hp:∀p∈t,(p.1=-1\/(0<=p.1/\p.1<n))/\Sz p.2/\Zk D 1 (p.2*(x/aW t))) (hk:k+t.length<=256^uK) (hn:t.length<=1000000):
  aC EN 187 [.c (.ptr rb 0),.agg (jP G (aW t)),.agg [.bool (rn x),.str (rs x),.str (rd x)]] σ λ_ σ'=>rJ σ'.h rb bc n o c (shF f t (x/aW t))/\(∀c,Zk D (k+t.length) (shF f t (x/aW t) c))/\aU [rb,bc] σ σ':=by
 refine aO (ku.o _ _) ku.h ?_
 unfold ku jP
 dsimp only
 have l0:=hf.wf.lt hr.r
 have l1:=hf.wf.lt hr.c
 have hlen:=hG.len
 have hkn:=hG.kn
 have hu:Ht x (aW t)=x/aW t:=by unfold Ht;rw[ae h0]
 generalize x/aW t=u at*
 have hW:=hf.wf
 simp(disch:=try exact jz) only[go_sem,z3,hlen,hu,hkn]
 refine bP.st (Fr σ) (fr) λhF=>?_
 refine aF (λm tm σ'=>∃j,m=t.length-j/\j<=t.length/\Tr.ah tm 0=.c (.ptr rb 0)/\Tr.ah tm 6=.c (.ptr (σ.aj+1+1) 0)/\Tr.ah tm 18=.c G/\Tr.ah tm 19=.c (.int .i64 (.ofNat t.length))/\Tr.ah tm 20=.c (.int .i64 (.ofNat j))
  /\σ'.h (σ.aj+1+1)=some ⟨[.bool (rn u),.str (rs u),.str (rd u)],none⟩/\rJ σ'.h rb bc n o c (shF f (t.take j) u)/\(∀c,Zk D (k+j) (shF f (t.take j) u c))/\aU [rb,bc] σ σ'/\σ.aj+3<=σ'.aj) t.length ?_ ?_
 .refine⟨0,jb,jb,?_⟩
  simp(disch:=try exact jz) only[go_sem,z3,am,cM,acy]
  exact⟨hr.fr hf.wf hF,hZ,hF.ex _,jb⟩
 .rintro m tm σ' ⟨j,rfl,hj,t0,t6,oP,t19,t20,hq,hr',hZ',hf',hnx⟩
  simp(disch:=try exact jz) only[go_sem,z3,t0,t6,oP,t19,t20]
  refine aH (λhlt=>?_) (λhlt=>?_)
  .obtain⟨b,o',c',rfl,hld⟩:=hG.pos jb
   have hld:=hld j hlt
   have hb0:=hW0.dB hld
   have hld:=hf'.ld hf.wf (by simp;omega) (hf.ld hW0 hld)
   have hpp:=hp _ (gy hlt)
   unfold Aa at hld
   have hb:=hf'.wf.dB hld
   have hsn:=XO f (t.take j) (ix t j) u
   rw[<-take_snoc hlt]at hsn
   generalize ix t j=p at*
   obtain⟨hp1,hp2,hp3⟩:=hpp
   simp(disch:=try exact jz) only[go_sem,z3,t0,t6,oP,t19,t20,hld,ak hq]
   refine aC.st (Fr σ') (by have hW':=hf'.wf;exact fr) λhF=>?_
   refine(ao5 hF.wf (hr'.fr hf'.wf hF) _ (hp3.sz hD u1) _ ((hZ' _).sz hD (aw jb hk)) hp1).mono ?_
   rintro _ σ2 ⟨hr2,hf2⟩
   have hf3:aU [rb,bc] σ' σ2:=aU.trans (hF.ex _) hf2
   have hl2:σ'.aj+1<=σ2.aj:=hf2.le
   have hle:=hf'.le
   simp(disch:=try exact jz) only[go_sem,z3,t0,t6,oP,t19,t20]
   refine⟨t.length-(j+1),jb,j+1,rfl,jb,rfl,hf3.get hf'.wf (by simp;omega) hq,hsn▸hr2,λc=>?_,hf'.trans hf3,jb⟩
   rw[<-hsn]
   refine(hZ' c).add (l:=1) ?_
   split
   .exact hp3
   .exact Zk.zero
  .have:j=t.length:=jb
   subst this
   rw[cC]at hr' hZ'
   simp(disch:=try exact jz) only[go_sem,z3,t0,t6,oP,t19,t20]
   exact⟨hr',hZ',hf'⟩
def Ip:gQ->Int->Rat
 |[],_=>0
 |t::l,c=>mF t c+Ip l c
def dQ:gQ->Nat
 |[]=>0
 |t::l=>t.length+dQ l
def aeJ(l:gQ)(t:dZ)(c:Int):Ip (l++[t]) c=Ip l c+mF t c:=by
 induction l with
 |nil=>show mF t c+0=0+mF t c;grind
 |cons u l ih=>show mF u c+Ip (l++[t]) c=mF u c+Ip l c+mF t c;rw[ih];grind
def Oj(l:gQ)(t:dZ):dQ (l++[t])=dQ l+t.length:=by
 induction l with
 |nil=>show t.length+0=0+t.length;omega
 |cons u l ih=>show u.length+dQ (l++[t])=u.length+dQ l+t.length;rw[ih];omega
def Ol(l:gQ):∀j,dQ (l.take j)<=dQ l:=by
 induction l with
 |nil=>intro j;simp
 |cons u l ih=>
  intro j
  cases j with
  |zero=>simp[dQ]
  |succ j=>rw[gh];have:=ih j;unfold dQ;omega
def Om(l:gQ){j:Nat}(h:j<l.length):dQ (l.take j)+(ix l j).length<=dQ l:=by rw[<-Oj,<-take_snoc h];exact Ol _ _
theorem Oe(l:gQ):∀m,dY l m<=l.length:=by
 induction l with
 |nil=>intro m;exact cT 0
 |cons t l ih=>intro m;unfold dY;have:=ih (m-aW t);rw[bX];split<;>omega
def UY{α:Type}[Inhabited α](a:α)(l:List α):ix (a::l) 0=a:=rfl
def Lj{α:Type}[Inhabited α](a:α)(l:List α)(j:Nat):ix (a::l) (j+1)=ix l j:=rfl
def Ju(l:gQ)(c:Int):∀m,iH l m c=Ip (l.take (dY l m)) c+if dY l m<l.length then mF (ix l (dY l m)) c*(jB l m/aW (ix l (dY l m)))else 0:=by
 induction l with
 |nil=>intro m;show(0:Rat)=0+_;simp;grind
 |cons t l ih=>
  intro m
  unfold iH dY jB
  by_cases h:m<aW t
  .simp only[ab h]
   rw[ab kc,UY]
   show _=0+_
   grind
  .simp only[ae h]
   rw[ih,gh,Lj]
   simp only[bX,Nat.add_lt_add_iff_right]
   show _=mF t c+Ip _ c+_
   grind
def EC(l:gQ)(c:Int)(r:Rat):∀m,jM l m r c=if dY l m<l.length then mF (ix l (dY l m)) c*(r/aW (ix l (dY l m)))else 0:=by
 induction l with
 |nil=>intro m;rfl
 |cons t l ih=>
  intro m
  unfold jM dY
  by_cases h:m<aW t
  .simp only[ab h]
   rw[ab kc,UY]
  .simp only[ae h]
   rw[ih,Lj]
   simp only[bX,Nat.add_lt_add_iff_right]
def aeK(l:gQ):∀m,mG l m=if dY l m<l.length then some (aW (ix l (dY l m))-jB l m)else none:=by
 induction l with
 |nil=>intro m;rfl
 |cons t l ih=>
  intro m
  unfold mG dY jB
  by_cases h:m<aW t
  .simp only[ab h]
   rw[ab kc,UY]
  .simp only[ae h]
   rw[ih,Lj]
   simp only[bX,Nat.add_lt_add_iff_right]
theorem UZ(l:gQ):∀m,0<=m->0<=jB l m/\(dY l m<l.length->jB l m<aW (ix l (dY l m))):=by
 induction l with
 |nil=>intro m h;exact⟨h,λh=>by simp[dY]at h⟩
 |cons t l ih=>
  intro m h
  unfold dY jB
  by_cases h2:m<aW t
  .simp only[ab h2];exact⟨h,λ_=>h2⟩
  .simp only[ae h2]
   obtain⟨a,b⟩:=ih (m-aW t) kd
   exact⟨a,λh=>by rw[Lj];exact b (by simp only[bX]at h;omega)⟩
theorem Oo(l:gQ):∀m,jB l m=m-BX l (dY l m):=by
 induction l with
 |nil=>intro m;show m=m-0;grind
 |cons t l ih=>
  intro m
  unfold dY jB
  by_cases h:m<aW t
  .simp only[ab h];show m=m-0;grind
  .simp only[ae h]
   rw[ih]
   show _=m-(aW t+BX l _)
   grind
structure Oq(D n:Nat)(l:gQ):Prop where
 len:l.length<=1000000
 tl:∀t∈l,t.length<=1000000
 st:∀t∈l,Sz (aW t)
 id:∀t∈l,∀p∈t,p.1=-1\/(0<=p.1/\p.1<n)
 sp:∀t∈l,∀p∈t,Sz p.2
 zp:∀t∈l,∀p∈t,Zk D 1 p.2
structure Ot(D:Nat)(l:gQ)(m x:Rat):Prop where
 cum:∀k,k<=l.length->Sz (m-BX l k)
 nn:0<=m
 sx:Sz x
 q:dY l m<l.length->Sz (x/aW (ix l (dY l m)))
 z:dY l m<l.length->∀p∈ix l (dY l m),Zk D 1 (p.2*(x/aW (ix l (dY l m))))
def Ot.ne{D:Nat}{l:gQ}{m x:Rat}(h:Ot D l m x)(hf:dY l m<l.length):aW (ix l (dY l m))≠0:=by have h1:=UZ l m h.nn;have h2:=h1.2 hf;intro e;rw[e]at h2;have:=h1.1;grind
def Io.tier{h:Tr Bk}{v:B}{l:gQ}(hl:Io h v l){j:Nat}(hj:j<l.length):∃b o c G,v=.sl b o l.length c/\ld h b (o+j*4) 4 true=some (.agg (jP G (aW (ix l j))))/\HL h 4 G (ix l j).length (λi=>Aa (ix (ix l j) i))/\b<0+b+1:=by obtain⟨G,hG,-,hP⟩:=hl;obtain⟨b,o,c,e,hld⟩:=hG.pos jb;exact⟨b,o,c,G j,e,hld j hj,hP j hj,jb⟩
def acA{σ0 σ:St}(hW0:WF σ0)(hf:Fr σ0 σ){rb bc n:Nat}{o:Option (Nat×Nat)}{c:Cap}{f:Int->Rat}(hrb:σ0.aj<=rb)(hbc:σ0.aj<=bc)(hr:rJ σ.h rb bc n o c f)
  (l:gQ) (v:B) (hL:Io σ0.h v l) (m x:Rat){D k:Nat}(hD:Cb D) (hl:Oq D n l) (hs:Ot D l m x) (hm:Sz m) (hZ:∀c,Zk D k (f c)) (hk:k+dQ l<=256^uK):
  aC EN 160 [.c v,.agg [.bool (rn m),.str (rs m),.str (rd m)],.agg [.bool (rn x),.str (rs x),.str (rd x)],.c (.ptr rb 0)] σ λ_ σ'=>rJ σ'.h rb bc n o c (λc=>f c+jM l m x c)/\(∀c,Zk D (k+dQ l) (f c+jM l m x c))/\aU [rb,bc] σ σ':=by
 refine aO (jY.o _ _) jY.h ?_
 unfold jY
 dsimp only
 have l0:=hf.wf.lt hr.r
 have l1:=hf.wf.lt hr.c
 have hlen:=hL.choose_spec.1.len
 simp(disch:=try exact jz) only[go_sem,z3,hlen]
 have hF:=Fr.new (Fr.new (Fr.refl hf.wf) ⟨[.bool (rn m),.str (rs m),.str (rd m)],none⟩) ⟨[.bool (rn x),.str (rs x),.str (rd x)],none⟩
 refine(UU l v m _ hF.wf (hL.fr hW0 (hf.trans hF)) (λi hi=>hl.st _ (gy hi)) hs.cum hl.len).mono ?_
 rintro _ σ2 ⟨rfl,hf2⟩
 have hF2:=hF.trans hf2
 have hp2:σ2.h (σ.aj+1)=some ⟨[.bool (rn x),.str (rs x),.str (rd x)],none⟩:=hf2.get hF.wf (aA _ _ _)
 have hl2:σ.aj+1+1<=σ2.aj:=hf2.le
 simp(disch:=try exact jz) only[go_sem,z3,hlen]
 refine aH (λhlt=>?_) (λhlt=>?_)
 .obtain⟨b,o',c',G,rfl,hld,hP,-⟩:=hL.tier hlt
  have hb0:=hW0.dB hld
  have hld:=hF2.ld hf.wf (hf.ld hW0 hld)
  unfold jP at hld
  have hb:=hF2.wf.dB hld
  have Ky:=gy hlt
  simp(disch:=try exact jz) only[go_sem,z3,hld,ak hp2,hP.kn]
  refine aC.st (Fr σ2) (by have hW2:=hF2.wf;exact fr) λhF3=>?_
  have oz:=hF2.trans hF3
  have hnp:=Om l hlt
  refine(acz hW0 (hf.trans oz) hrb hbc (hr.fr hf.wf oz) (ix l (dY l m)) G hP x hs.sx (hl.st _ Ky) (hs.ne hlt) (hs.q hlt) hD hZ (λp hp=>⟨hl.id _ Ky p hp,hl.sp _ Ky p hp,hs.z hlt p hp⟩) (aw jb hk) (hl.tl _ Ky)).mono ?_
  rintro _ σ4 ⟨hr4,hZ4,hf4⟩
  have e:shF f (ix l (dY l m)) (x/aW (ix l (dY l m)))=λc=>f c+jM l m x c:=by funext c;rw[EC,ab hlt];rfl
  rw[e]at hr4 hZ4
  simp(disch:=try exact jz) only[go_sem,z3]
  exact⟨hr4,λc=>(hZ4 c).mono jb,(oz.ex _).trans hf4⟩
 .have e:(λc=>f c+jM l m x c)=f:=by funext c;rw[EC,ae hlt,da]
  have e2:∀c,f c+jM l m x c=f c:=λc=>cg e c
  simp(disch:=try exact jz) only[go_sem,z3,e,e2]
  have hr2:=hr.fr hf.wf hF2
  have b0:=hF2.wf.lt hr2.r
  have b1:=hF2.wf.lt hr2.c
  refine⟨hr2.set2 jb jb,λc=>(hZ c).mono jb,Fr.ex (by have hW2:=hF2.wf;exact fr) _⟩
def ao6{σ:St}(hW:WF σ)(l:gQ)(v:B)(hL:Io σ.h v l)(m:Rat)(hl:l.length<=1000000)(hst:∀t∈l,Sz (aW t))(hs:∀k,k<=l.length->Sz (m-BX l k)):
  aC EN 223 [.c v,.agg [.bool (rn m),.str (rs m),.str (rd m)]] σ λr σ'=>r=(match mG l m with|some g=>.aV (.agg [.bool (rn g),.str (rs g),.str (rd g)]) (.aV (.c (.bool true)) .tnil)|none=>.aV (.agg [.bool (rn 0),.str (rs 0),.str (rd 0)]) (.aV (.c (.bool false)) .tnil))/\Fr σ σ':=by
 refine aO (lY.o _ _) lY.h ?_
 unfold lY
 dsimp only
 have hlen:=hL.choose_spec.1.len
 simp(disch:=try exact jz) only[go_sem,z3,hlen]
 have hF:=Fr.new (Fr.new (Fr.refl hW) ⟨[.bool (rn m),.str (rs m),.str (rd m)],none⟩) ⟨[.bool (rn 0),.str (rs 0),.str (rd 0)],none⟩
 refine(UU l v m _ hF.wf (hL.fr hW hF) (λi hi=>hst _ (gy hi)) hs hl).mono ?_
 rintro _ σ2 ⟨rfl,hf2⟩
 have hF2:=hF.trans hf2
 have hp2:σ2.h (σ.aj+1)=some ⟨[.bool (rn 0),.str (rs 0),.str (rd 0)],none⟩:=hf2.get hF.wf (aA _ _ _)
 have hl2:σ.aj+1+1<=σ2.aj:=hf2.le
 have hfl:=Oe l m
 rw[aeK]
 simp(disch:=try exact jz) only[go_sem,z3,hlen]
 refine aH (λhlt=>?_) (λhlt=>?_)
 .rw[ae jb]
  simp(disch:=try exact jz) only[go_sem,z3,ak hp2,aI hp2,hp2]
  exact fr
 .have hlt:dY l m<l.length:=jb
  rw[ab hlt]
  obtain⟨b,o',c',G,rfl,hld,hP,-⟩:=hL.tier hlt
  have hld:=hF2.ld hW hld
  unfold jP at hld
  have hb:=hF2.wf.dB hld
  have Ky:=hst _ (gy hlt)
  have hlm:Sz (jB l m):=by rw[Oo];exact hs _ hfl
  simp(disch:=try exact jz) only[go_sem,z3,hld,xG hld,ak hp2,aI hp2,hp2]
  exact fr
def Jv(f:Int->Rat)(l:gQ)(c:Int):Rat:=f c+Ip l c
def aib(f:Int->Rat):Jv f []=f:=by funext c;show f c+0=f c;grind
def aeL(f:Int->Rat)(l:gQ)(t:dZ):shF (Jv f l) t 1=Jv f (l++[t]):=by funext c;unfold shF Jv;rw[aeJ];grind
def ao7{σ0 σ:St}(hW0:WF σ0)(hf:Fr σ0 σ){rb bc n:Nat}{o:Option (Nat×Nat)}{c:Cap}{f:Int->Rat}(hrb:σ0.aj<=rb)(hbc:σ0.aj<=bc)(hr:rJ σ.h rb bc n o c f)
  (l:gQ) (v:B) (hL:Io σ0.h v l) (m:Rat){D k:Nat}(hD:Cb D) (hl:Oq D n l) (hs:Ot D l m (jB l m)) (hm:Sz m) (hZ:∀c,Zk D k (f c)) (hk:k+dQ l<=256^uK) (hpos:0<l.length):
  aC EN 145 [.c v,.agg [.bool (rn m),.str (rs m),.str (rd m)],.c (.ptr rb 0)] σ λ_ σ'=>rJ σ'.h rb bc n o c (λc=>f c+iH l m c)/\(∀c,Zk D (k+dQ l) (f c+iH l m c))/\aU [rb,bc] σ σ':=by
 refine aO (lU.o _ _) lU.h ?_
 unfold lU
 dsimp only
 have l0:=hf.wf.lt hr.r
 have l1:=hf.wf.lt hr.c
 have hlen:=hL.choose_spec.1.len
 simp(disch:=try exact jz) only[go_sem,z3,hlen]
 have hF:=Fr.new (Fr.refl hf.wf) ⟨[.bool (rn m),.str (rs m),.str (rd m)],none⟩
 refine(UU l v m _ hF.wf (hL.fr hW0 (hf.trans hF)) (λi hi=>hl.st _ (gy hi)) hs.cum hl.len).mono ?_
 rintro _ σ2 ⟨rfl,hf2⟩
 have hF2:=hF.trans hf2
 have hl2:σ.aj+1<=σ2.aj:=hf2.le
 have hfl:=Oe l m
 have hll:=hl.len
 obtain⟨G,hG,hcap,hP⟩:=hL
 obtain⟨b,o',c0,rfl,vK⟩:=hG.pos hpos
 obtain⟨v',hv',-,⟨h0,-⟩|⟨b2,o2,c2,c',h2,rfl⟩⟩:=aro hcap (.inr ⟨b,o',c0,rfl,hpos⟩) hfl 4
 .omega
 cases h2
 simp(disch:=try exact jz) only[go_sem,z3,hlen,hv']
 refine bP.st (Fr σ2) (by have hW2:=hF2.wf;exact fr) λhF3=>?_
 have oz:=hF2.trans hF3
 refine aF (λq tm σ'=>∃j,q=dY l m-j/\j<=dY l m/\Tr.ah tm 0=.c (.sl b o' l.length c0)/\Tr.ah tm 2=.c (.ptr rb 0)/\Tr.ah tm 6=.c (.int .i64 (.ofNat (dY l m)))/\Tr.ah tm 7=.c (.ptr σ2.aj 0)
  /\Tr.ah tm 20=.c (.sl b o' (dY l m) c')/\Tr.ah tm 21=.c (.int .i64 (.ofNat (dY l m)))/\Tr.ah tm 22=.c (.int .i64 (.ofNat j))
  /\σ'.h σ2.aj=some ⟨[.bool (rn (jB l m)),.str (rs (jB l m)),.str (rd (jB l m))],none⟩/\rJ σ'.h rb bc n o c (Jv f (l.take j))/\(∀c,Zk D (k+dQ (l.take j)) (Jv f (l.take j) c))/\aU [rb,bc] σ σ'/\σ2.aj+1<=σ'.aj) (dY l m) ?_ ?_
 .refine⟨0,jb,jb,?_⟩
  simp(disch:=try exact jz) only[go_sem,z3,am,cM,aib]
  exact⟨hr.fr hf.wf oz,λc=>(hZ c).mono jb,oz.ex _,jp⟩
 .rintro q tm σ' ⟨j,rfl,hj,t0,t2,t6,t7,t20,t21,t22,hq,hr',hZ',hf',hnx⟩
  simp(disch:=try exact jz) only[go_sem,z3,t0,t2,t6,t7,t20,t21,t22]
  refine aH (λhlt=>?_) (λhlt=>?_)
  .have hjl:j<l.length:=jb
   have Ky:=gy hjl
   have EF:=hP j hjl
   have htl:=hl.tl _ Ky
   have hpl:=EF.len
   have aeM:=vK j hjl
   have hb0:=hW0.dB aeM
   have hld:=hf'.ld hf.wf (by simp;omega) (hf.ld hW0 aeM)
   unfold jP at hld
   have hb:=hf'.wf.dB hld
   simp(disch:=try exact jz) only[go_sem,z3,t0,t2,t6,t7,t20,t21,t22,hld,EF.kn,hpl]
   refine bP.st (Fr σ') (by have hW2:=hf'.wf;exact fr) λgV=>?_
   refine aF (λq tm σ3=>∃i,q=(ix l j).length-i/\i<=(ix l j).length/\Tr.ah tm 0=.c (.sl b o' l.length c0)/\Tr.ah tm 2=.c (.ptr rb 0)/\Tr.ah tm 6=.c (.int .i64 (.ofNat (dY l m)))/\Tr.ah tm 7=.c (.ptr σ2.aj 0)
    /\Tr.ah tm 20=.c (.sl b o' (dY l m) c')/\Tr.ah tm 21=.c (.int .i64 (.ofNat (dY l m)))/\Tr.ah tm 22=.c (.int .i64 (.ofNat j))/\Tr.ah tm 27=.c (G j)/\Tr.ah tm 28=.c (.int .i64 (.ofNat (ix l j).length))/\Tr.ah tm 29=.c (.int .i64 (.ofNat i))
    /\rJ σ3.h rb bc n o c (shF (Jv f (l.take j)) ((ix l j).take i) 1)/\(∀c,Zk D (k+dQ (l.take j)+i) (shF (Jv f (l.take j)) ((ix l j).take i) 1 c))/\aU [rb,bc] σ' σ3) (ix l j).length ?_ ?_
   .refine⟨0,jb,jb,?_⟩
    simp(disch:=try exact jz) only[go_sem,z3,t0,t2,t6,t7,t20,t21,t22,am,cM,acy]
    exact⟨hr'.fr hf'.wf gV,hZ',gV.ex _⟩
   .rintro q VR σ3 ⟨i,rfl,hi,t0,t2,t6,t7,t20,t21,t22,t27,t28,t29,hr3,hZ3,hf3⟩
    simp(disch:=try exact jz) only[go_sem,z3,t0,t2,t6,t7,t20,t21,t22,t27,t28,t29]
    refine aH (λY1=>?_) (λY1=>?_)
    .obtain⟨b3,o3,c3,e3,uN⟩:=EF.pos jb
     rw[e3]at t27
     have uN:=uN i Y1
     have hb3:=hW0.dB uN
     have hlx:=(hf'.trans hf3).ld hf.wf (by simp;omega) (hf.ld hW0 uN)
     unfold Aa at hlx
     have hb4:=hf3.wf.dB hlx
     have hsn:=XO (Jv f (l.take j)) ((ix l j).take i) (ix (ix l j) i) 1
     rw[<-take_snoc Y1,Rat.mul_one]at hsn
     have hpm:=gy Y1
     have hid:=hl.id _ Ky _ hpm
     have hsp:=hl.sp _ Ky _ hpm
     have hzp:=hl.zp _ Ky _ hpm
     have hnp:=Om l hjl
     generalize ix (ix l j) i=p at*
     simp(disch:=try exact jz) only[go_sem,z3,t0,t2,t6,t7,t20,t21,t22,t27,t28,t29,hlx]
     refine aC.st (Fr σ3) (by have hW2:=hf3.wf;exact fr) λlI=>?_
     refine(ao5 lI.wf (hr3.fr hf3.wf lI) _ hsp _ ((hZ3 _).sz hD (aw jb hk)) hid).mono ?_
     rintro _ σ5 ⟨hr5,hf5⟩
     rw[hsn]at hr5
     simp(disch:=try exact jz) only[go_sem,z3,t0,t2,t6,t7,t20,t21,t22,t27,t28,t29]
     refine⟨(ix l j).length-(i+1),jb,i+1,rfl,jb,e3.symm▸rfl,rfl,hr5,λc=>?_,hf3.trans ((lI.ex _).trans hf5)⟩
     rw[<-hsn]
     refine(hZ3 c).add (l:=1) ?_
     split
     .exact hzp
     .exact Zk.zero
    .have:i=(ix l j).length:=jb
     subst this
     rw[cC,aeL,<-take_snoc hjl]at hr3 hZ3
     have hnp:=Oj (l.take j) (ix l j)
     rw[<-take_snoc hjl]at hnp
     have hfx:=hf3.le
     have hqx:=hf3.get hf'.wf (show¬σ2.aj∈[rb,bc] by simp;omega) hq
     simp(disch:=try exact jz) only[go_sem,z3,t0,t2,t6,t7,t20,t21,t22,t27,t28,t29]
     exact⟨dY l m-(j+1),jb,j+1,rfl,jb,rfl,hqx,hr3,λc=>(hZ3 c).mono jb,hf'.trans hf3,jb⟩
  .have:j=dY l m:=jb
   subst this
   simp(disch:=try exact jz) only[go_sem,z3,t0,t2,t6,t7,t20,t21,t22]
   refine aH (λhlf=>?_) (λhlf=>?_)
   .have Ky:=gy hlf
    have aeM:=vK _ hlf
    have hb0:=hW0.dB aeM
    have hld:=hf'.ld hf.wf (by simp;omega) (hf.ld hW0 aeM)
    unfold jP at hld
    have hb:=hf'.wf.dB hld
    have hnp:=Om l hlf
    simp(disch:=try exact jz) only[go_sem,z3,t0,t2,t6,t7,t20,t21,t22,hld,ak hq,(hP _ hlf).kn]
    refine(acz hW0 (hf'.to hf (by simp;omega)) hrb hbc hr' (ix l (dY l m)) (G (dY l m)) (hP _ hlf) (jB l m) hs.sx (hl.st _ Ky) (hs.ne hlf) (hs.q hlf) hD hZ' (λp hp=>⟨hl.id _ Ky p hp,hl.sp _ Ky p hp,hs.z hlf p hp⟩) (aw jb hk) (hl.tl _ Ky)).mono ?_
    rintro _ σ4 ⟨hr4,hZ4,hf5⟩
    have e:shF (Jv f (l.take (dY l m))) (ix l (dY l m)) (jB l m/aW (ix l (dY l m)))=λc=>f c+iH l m c:=by funext c;rw[Ju,ab hlf];unfold shF Jv;grind
    rw[e]at hr4 hZ4
    simp(disch:=try exact jz) only[go_sem,z3]
    exact⟨hr4,λc=>(hZ4 c).mono jb,hf'.trans hf5⟩
   .have e:Jv f (l.take (dY l m))=λc=>f c+iH l m c:=by funext c;rw[Ju,ae hlf];unfold Jv;grind
    have hnp:=Ol l (dY l m)
    rw[e]at hr' hZ'
    simp(disch:=try exact jz) only[go_sem,z3]
    exact⟨hr',λc=>(hZ' c).mono jb,hf'⟩
theorem mM{α:Type}(l:List α)(a:α)(f:α->Rat):aK (l++[a]) f=aK l f+f a:=by
 induction l with
 |nil=>show f a+0=0+f a;grind
 |cons b l ih=>show f b+aK (l++[a]) f=f b+aK l f+f a;rw[ih];grind
def U2{α:Type}{D k:Nat}{f:α->Rat}:∀{l:List α},(∀a∈l,Zk D k (f a))->Zk D (k*l.length) (aK l f)
 |[],_=>Zk.zero
 |a::l,h=>by have:=(h a kc).add (U2 (l:=l) λb hb=>h b (by simp[hb]));rw[bX,Nat.mul_succ,eZ];exact this
def aic{α:Type}{l:List α}{a:α}{j:Nat}(h:a∈l.take j):a∈l:=eA h
def P8(ms:List Nat)(i:Nat):B:=.int .i64 (.ofNat (ix ms i))
def Iq{σ:St}(hW:WF σ){n:Nat}(ms:List Nat)(mv lv rv:B)(f:Nat->Rat)(hm:HC σ.h mv ms.length (P8 ms))(hv:HL σ.h 3 rv n λi=>gZ (f i))(hms:∀i∈ms,i<n)(hl:ms.length<=1000000)
  {D k:Nat}(hD:Cb D) (hZ:∀i,i<n->Zk D k (f i)) (hk:k*(ms.length+1)<=256^uK):
  aC EN 146 [.agg [mv,lv],.c rv] σ λr σ'=>r=.agg [.bool (rn (aK ms f)),.str (rs (aK ms f)),.str (rd (aK ms f))]/\Fr σ σ':=by
 refine aO (lV.o _ _) lV.h ?_
 unfold lV
 dsimp only
 have hlen:=hm.len
 simp(disch:=try exact jz) only[go_sem,z3,hlen,hm.kn]
 refine bP.st (Fr σ) (fr) λhF=>?_
 refine aF (λq tm σ'=>∃j,q=ms.length-j/\j<=ms.length/\Tr.ah tm 1=.c rv/\Tr.ah tm 4=.c (.ptr (σ.aj+1) 0)/\Tr.ah tm 5=.c (.ptr (σ.aj+1+1) 0)/\Tr.ah tm 10=.c mv/\Tr.ah tm 11=.c (.int .i64 (.ofNat ms.length))/\Tr.ah tm 12=.c (.int .i64 (.ofNat j))
  /\σ'.h (σ.aj+1)=some ⟨[.bool (rn 0),.str (rs 0),.str (rd 0)],none⟩/\σ'.h (σ.aj+1+1)=some ⟨[.bool (rn (aK (ms.take j) f)),.str (rs (aK (ms.take j) f)),.str (rd (aK (ms.take j) f))],none⟩/\Fr σ σ'/\σ.aj+3<=σ'.aj) ms.length ?_ ?_
 .refine⟨0,jb,jb,?_⟩
  simp(disch:=try exact jz) only[go_sem,z3,am,cM,show aK ([]:List Nat) f=0 from rfl]
  exact⟨hF,jb⟩
 .rintro q tm σ' ⟨j,rfl,hj,t1,t4,t5,t10,t11,t12,hq1,hq2,hf',hnx⟩
  simp(disch:=try exact jz) only[go_sem,z3,t1,t4,t5,t10,t11,t12]
  refine aH (λhlt=>?_) (λhlt=>?_)
  .obtain⟨b,o,c,rfl,hld⟩:=hm.pos jb
   have hld:=hf'.ld hW (hld j hlt)
   have hn:=hms _ (gy hlt)
   obtain⟨b2,o2,c2,rfl,ET⟩:=hv.pos jb
   have ET:=hf'.ld hW (ET _ hn)
   have hb2:=hf'.wf.dB ET
   unfold P8 at hld
   unfold gZ at ET
   have hsn:=mM (ms.take j) (ix ms j) f
   rw[<-take_snoc hlt]at hsn
   have hz1:Sz (f (ix ms j)):=(hZ _ hn).sz hD (aw (gd _ jb) hk)
   have hz2:Sz (aK (ms.take j) f):=(U2 λa ha=>hZ a (hms a (aic ha))).sz hD (aw (cA _ (by rw[dt];omega)) hk)
   simp(disch:=try exact jz) only[go_sem,z3,t1,t4,t5,t10,t11,t12,hld,ET,ak hq2,hq1,hq2,aI hq2,<-hsn]
   refine⟨ms.length-(j+1),jb,j+1,rfl,jb,rfl,rfl,?_,jb⟩
   exact fr
  .have:j=ms.length:=jb
   subst this
   rw[cC]at hq2
   simp(disch:=try exact jz) only[go_sem,z3,t1,t4,t5,t10,t11,t12,ak hq2,hq1,aI hq1]
   exact fr
structure Jw(h:Tr Bk)(rv pv:B)(e:fJ):Prop where
 rk:Io h rv e.rk
 ps:∃Gm Gl:Nat->B,HL h 2 pv e.ps.length (λi=>[Gm i,Gl i])/\∀i,i<e.ps.length->HC h (Gm i) (ix e.ps i).1.length (P8 (ix e.ps i).1)/\Io h (Gl i) (ix e.ps i).2
theorem Jw.fr{σ σ':St}(hW:WF σ)(hf:Fr σ σ'){rv pv:B}{e:fJ}(h:Jw σ.h rv pv e):Jw σ'.h rv pv e:=by obtain⟨h1,Gm,Gl,h2,h3⟩:=h;exact⟨h1.fr hW hf,Gm,Gl,h2.fr hW hf,λi hi=>⟨(h3 i hi).1.fr hW hf,(h3 i hi).2.fr hW hf⟩⟩
def jA(n:Nat)(rv pv:B)(t:Rat):List B:=[.int .i64 (.ofNat n),rv,pv,.bool (rn t),.str (rs t),.str (rd t)]
def Io.kn{h:Tr Bk}{v:B}{l:gQ}(hl:Io h v l):v.kn=true:=hl.choose_spec.1.kn
def Jw.VU{h:Tr Bk}{rv pv:B}{e:fJ}(hl:Jw h rv pv e):pv.kn=true:=by obtain⟨_,Gm,Gl,h2,h3⟩:=hl;exact h2.kn
structure avy(σ σ':St)(r:V)(n:Nat)(f:Nat->Rat)(b:Nat):Prop where
 r:r=.c (.sl b 0 n (.ex n))
 c:σ'.h b=some ⟨bY n f,none⟩
 b:σ.aj<=b
def Ll{σ:St}(hW:WF σ){n:Nat}{rv pv:B}(t:Rat)(e:fJ)(hL:Jw σ.h rv pv e)(m:Rat){D:Nat}(hD:Cb D)(hn:n<=1000000)(hl:Oq D n e.rk)(hs:Ot D e.rk m (jB e.rk m))(hm:Sz m)(hk:dQ e.rk<=256^uK)(hpos:0<e.rk.length):
  aC EN 89 [.agg (jA n rv pv t),.agg [.bool (rn m),.str (rs m),.str (rd m)]] σ λr σ'=>(∃b,avy σ σ' r n (λi=>Az e m i) b)/\(∀i:Nat,Zk D (dQ e.rk) (Az e m i))/\Fr σ σ':=by
 refine aO (jT.o _ _) jT.h ?_
 unfold jT jA
 dsimp only
 simp(disch:=try exact jz) only[go_sem,z3,hL.rk.kn]
 refine aC.st (Fr σ) (fr) λhF=>?_
 refine(ao7 (f:=λ_=>0) (k:=0) hW hF jb jb ⟨aA _ _ _,(au _ _ _ _ jb).trans (aA _ _ _),rfl,rfl,jb⟩ e.rk rv hL.rk m hD hl hs hm (λ_=>Zk.zero) jb hpos).mono ?_
 rintro _ σ2 ⟨hr2,hZ2,hf2⟩
 have hz:(λc=>(0:Rat)+iH e.rk m c)=iH e.rk m:=by funext c;grind
 have hz2:∀c,(0:Rat)+iH e.rk m c=iH e.rk m c:=λc=>by grind
 rw[hz]at hr2
 simp only[hz2,cK]at hZ2
 have h5:=hr2.r
 simp(disch:=try exact jz) only[go_sem,z3,ak h5]
 exact⟨⟨_,rfl,hr2.c,jb⟩,λi=>hZ2 i,hf2.to hF (by simp;omega)⟩
def acC{σ:St}(hW:WF σ){n:Nat}{rv pv:B}(t:Rat)(e:fJ)(hL:Jw σ.h rv pv e)(m:Rat){D:Nat}(hD:Cb D)(hn:n<=1000000)(hl:Oq D n e.rk)(hs:Ot D e.rk m 1)(hm:Sz m)(hk:dQ e.rk<=256^uK):
  aC EN 159 [.agg (jA n rv pv t),.agg [.bool (rn m),.str (rs m),.str (rd m)]] σ λr σ'=>(∃b,avy σ σ' r n (λi=>rts e m i) b)/\(∀i:Nat,Zk D (dQ e.rk) (rts e m i))/\Fr σ σ':=by
 refine aO (jX.o _ _) jX.h ?_
 unfold jX jA
 dsimp only
 simp(disch:=try exact jz) only[go_sem,z3,hL.rk.kn]
 refine aC.st (Fr σ) (fr) λhF=>?_
 refine(acA (f:=λ_=>0) (k:=0) hW hF jb jb ⟨aA _ _ _,(au _ _ _ _ jb).trans (aA _ _ _),rfl,rfl,jb⟩ e.rk rv hL.rk m 1 hD hl hs hm (λ_=>Zk.zero) jb).mono ?_
 rintro _ σ2 ⟨hr2,hZ2,hf2⟩
 have hz:(λc=>(0:Rat)+jM e.rk m 1 c)=jM e.rk m 1:=by funext c;grind
 have hz2:∀c,(0:Rat)+jM e.rk m 1 c=jM e.rk m 1 c:=λc=>by grind
 rw[hz]at hr2
 simp only[hz2,cK]at hZ2
 have h5:=hr2.r
 simp(disch:=try exact jz) only[go_sem,z3,ak h5]
 exact⟨⟨_,rfl,hr2.c,jb⟩,λi=>hZ2 i,hf2.to hF (by simp;omega)⟩
def acD{σ:St}(hW:WF σ){n b:Nat}{c:Cap}{f:Nat->Rat}(hb:σ.h b=some ⟨bY n f,none⟩)(hn:n<=1000000):
  aC EN 87 [.c (.sl b 0 n c)] σ λr σ'=>(∃b' c' o',r=.c (.sl b' 0 n c')/\σ'.h b'=some ⟨bY n f,o'⟩/\plo o'=true/\Y0 o'=true/\σ.aj<=b'/\b'<σ'.aj)/\Fr σ σ':=by
 refine aO (iO.o _ _) iO.h ?_
 unfold iO
 dsimp only
 have hbl:=hW.lt hb
 by_cases h0:n=0
 .subst h0
  simp(disch:=try exact jz) only[go_sem,z3,hb]
  refine⟨⟨σ.aj,_,none,rfl,aA _ _ _,rfl,rfl,jp,ce _⟩,?_⟩
  exact fr
 .simp(disch:=try exact jz) only[go_sem,z3,hb]
  refine⟨⟨σ.aj+1,_,_,rfl,aA _ _ _,rfl,rfl,jb,ce _⟩,?_⟩
  exact fr
def zF(l:List Nat)(f:Nat->Rat):Int->Rat:=λi=>if 0<=i then(if l.contains i.toNat then 0 else f i.toNat)else 0
def Ou(l:List Nat)(f:Nat->Rat):zF l f (-1)=0:=ae jb
def U3(l:List Nat)(f:Nat->Rat)(i:Nat):zF l f i=if l.contains i then 0 else f i:=by unfold zF;rw[ab jb,gz]
def amV(l:List Nat)(f:Nat->Rat)(k n:Nat):bY n (aN (λi=>zF l f i) k 0)=bY n λi=>zF (l++[k]) f i:=by
 refine dH λi _=>?_;show(if i=k then 0 else zF l f i)=_;rw[U3,U3,List.contains_append];by_cases h:i=k
 .subst h;simp
 .rw[ae h];simp[h]
def flat(ps:List (List Nat×gQ)):List Nat:=ps.flatMap λp=>p.1
def aeN(ps:List (List Nat×gQ))(p:List Nat×gQ):flat (ps++[p])=flat ps++p.1:=by unfold flat;simp
def J9(e:fJ)(c:Nat):(flat e.ps).contains c=pooled e c:=by
 unfold flat pooled;induction e.ps with
 |nil=>rfl
 |cons p l ih=>rw[il,List.contains_append,List.any_cons,ih]
def aie{σ:St}(hW:WF σ){n b:Nat}{rv pv:B}(t:Rat)(e:fJ)(hL:Jw σ.h rv pv e){f:Nat->Rat}(hb:σ.h b=some ⟨bY n f,none⟩){c:Cap}(hn:n<=1000000)(hp:e.ps.length<=1000000)(hm:∀p∈e.ps,p.1.length<=1000000/\∀i∈p.1,i<n):
  aC EN 144 [.agg (jA n rv pv t),.c (.sl b 0 n c)] σ λr σ'=>(∃rb bc o c',r=.c (.ptr rb 0)/\rJ σ'.h rb bc n o c' (zF (flat e.ps) f)/\σ.aj<=rb/\σ.aj<=bc)/\Fr σ σ':=by
 refine aO (kS.o _ _) kS.h ?_
 unfold kS jA
 dsimp only
 simp(disch:=try exact jz) only[go_sem,z3]
 refine aC.st (Fr σ) (fr) λhF=>?_
 refine(acD hF.wf (hF.get hW hb) hn).mono ?_
 rintro _ σ2 ⟨⟨bc,c',o,rfl,h2,hpl,hrd,hbc,hbc2⟩,hf2⟩
 have hF2:=hF.trans hf2
 obtain⟨-,Gm,Gl,hG,hP⟩:=hL
 have hlen:=hG.len
 have hbox:σ2.h σ.aj=some ⟨[.int .i64 (.ofNat n),rv,pv,.bool (rn t),.str (rs t),.str (rd t)],none⟩:=hf2.get hF.wf (aA _ _ _)
 have hl2:σ.aj+1<=σ2.aj:=hf2.le
 have hbc:σ.aj+1<=bc:=hbc
 simp(disch:=try exact jz) only[go_sem,z3,ak hbox,hlen,hG.kn]
 refine aF (λq tm σ'=>∃j,q=e.ps.length-j/\j<=e.ps.length/\Tr.ah tm 5=.c (.ptr σ2.aj 0)/\Tr.ah tm 15=.c pv/\Tr.ah tm 16=.c (.int .i64 (.ofNat e.ps.length))/\Tr.ah tm 17=.c (.int .i64 (.ofNat j))
  /\rJ σ'.h σ2.aj bc n o c' (zF (flat (e.ps.take j)) f)/\Fr σ σ'/\σ2.aj+1<=σ'.aj) e.ps.length ?_ ?_
 .refine⟨0,jb,jb,?_⟩
  simp(disch:=try exact jz) only[go_sem,z3,am,cM]
  refine⟨⟨?_,?_,hpl,hrd,jb⟩,?_,jp⟩
  .rw[aA,Ou]
  .rw[au _ _ _ _ jb,h2]
   congr 2
  .exact fr
 .rintro q tm σ' ⟨j,rfl,hj,t5,t15,t16,t17,hr,hf',hnx⟩
  simp(disch:=try exact jz) only[go_sem,z3,t5,t15,t16,t17]
  refine aH (λhlt=>?_) (λhlt=>?_)
  .obtain⟨b2,o2,c2,rfl,hld⟩:=hG.pos jb
   have hld:=hf'.ld hW (hld j hlt)
   have hb2:=hf'.wf.dB hld
   have EF:=hP j hlt
   have hpl2:=EF.1.len
   have hmj:=hm _ (gy hlt)
   have hfs:=aeN (e.ps.take j) (ix e.ps j)
   rw[<-take_snoc hlt]at hfs
   generalize ix e.ps j=p at*
   simp(disch:=try exact jz) only[go_sem,z3,t5,t15,t16,t17,hld,EF.1.kn,EF.2.kn,hpl2]
   refine bP.st (Fr σ') (by have hW2:=hf'.wf;exact fr) λgV=>?_
   refine aF (λq tm σ3=>∃i,q=p.1.length-i/\i<=p.1.length/\Tr.ah tm 5=.c (.ptr σ2.aj 0)/\Tr.ah tm 15=.c (.sl b2 o2 e.ps.length c2)/\Tr.ah tm 16=.c (.int .i64 (.ofNat e.ps.length))/\Tr.ah tm 17=.c (.int .i64 (.ofNat j))
    /\Tr.ah tm 22=.c (Gm j)/\Tr.ah tm 23=.c (.int .i64 (.ofNat p.1.length))/\Tr.ah tm 24=.c (.int .i64 (.ofNat i))
    /\rJ σ3.h σ2.aj bc n o c' (zF (flat (e.ps.take j)++p.1.take i) f)/\Fr σ σ3/\σ2.aj+1<=σ3.aj) p.1.length ?_ ?_
   .refine⟨0,jb,jb,?_⟩
    simp(disch:=try exact jz) only[go_sem,z3,t5,t15,t16,t17,am,cM,dy]
    exact⟨hr.fr hf'.wf gV,hf'.trans gV,jb⟩
   .rintro q VR σ3 ⟨i,rfl,hi,t5,t15,t16,t17,t22,t23,t24,hr3,hf3,hn3⟩
    simp(disch:=try exact jz) only[go_sem,z3,t5,t15,t16,t17,t22,t23,t24]
    refine aH (λY1=>?_) (λY1=>?_)
    .obtain⟨b3,o3,c3,e3,uN⟩:=EF.1.pos jb
     rw[e3]at t22
     have uN:=hf3.ld hW (uN i Y1)
     unfold P8 at uN
     have hin:=hmj.2 _ (gy Y1)
     have hzs:=amV (flat (e.ps.take j)++p.1.take i) f (ix p.1 i) n
     rw[ik,<-take_snoc Y1]at hzs
     have avz:=hr3.r
     have avA:=hr3.c
     have hb3:=hf3.wf.lt avA
     simp(disch:=try exact jz) only[go_sem,z3,t5,t15,t16,t17,t22,t23,t24,uN,ak avz,aI avA,hpl,hzs]
     refine⟨p.1.length-(i+1),jb,i+1,rfl,jb,e3.symm▸rfl,rfl,⟨?_,aA _ _ _,hpl,hrd,jb⟩,?_,jb⟩
     .rw[au _ _ _ _ jb,avz,Ou,Ou]
     .exact fr
    .have:i=p.1.length:=jb
     subst this
     rw[cC,<-hfs]at hr3
     simp(disch:=try exact jz) only[go_sem,z3,t5,t15,t16,t17,t22,t23,t24]
     exact⟨e.ps.length-(j+1),jb,j+1,rfl,jb,rfl,hr3,hf3,jb⟩
  .have:j=e.ps.length:=jb
   subst this
   rw[cC]at hr
   simp(disch:=try exact jz) only[go_sem,z3,t5,t15,t16,t17]
   exact⟨⟨_,_,_,_,rfl,hr,jb,jb⟩,hf'⟩
end Go.Proofs.Xe
