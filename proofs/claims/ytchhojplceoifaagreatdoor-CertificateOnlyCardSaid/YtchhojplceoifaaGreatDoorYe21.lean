import Derived.Test.YtchhojplceoifaaGreatDoorYe20
set_option linter.all false
set_option maxRecDepth 100000
namespace Go.Proofs.Xe
open Go.RowKit Go.Proofs.Ins
structure rJ(h:Tr Bk)(rb bc n:Nat)(o:Option (Nat×Nat))(c:Cap)(f:Int->Rat):Prop where
 r:h rb=some ⟨[.sl bc 0 n c,.bool (rn (f (-1))),.str (rs (f (-1))),.str (rd (f (-1)))],none⟩
 c:h bc=some ⟨cO n λi=>f i,o⟩
 pl:plo o=true
 rd:Y4 o=true
 ne:rb≠bc
def UZ(f:Int->Rat)(k:Int)(q:Rat):Int->Rat:=λc=>f c+if c=k then q else 0
def rJ.set{h:Tr Bk}{rb bc n b:Nat}{o:Option (Nat×Nat)}{c:Cap}{f:Int->Rat}(hr:rJ h rb bc n o c f)(h1:rb≠b)(h2:bc≠b)(k:Bk):rJ (hset h b k) rb bc n o c f:=
 ⟨by rw[au _ _ _ _ h1];exact hr.r,by rw[au _ _ _ _ h2];exact hr.c,hr.pl,hr.rd,hr.ne⟩
def rJ.set2{h:Tr Bk}{rb bc n b:Nat}{o:Option (Nat×Nat)}{c:Cap}{f:Int->Rat}(hr:rJ h rb bc n o c f)(h1:rb≠b)(h2:bc≠b){k k':Bk}:rJ (hset (hset h b k) b k') rb bc n o c f:=(hr.set h1 h2 k).set h1 h2 k'
def avH{σ:St}(hW:WF σ){rb bc n:Nat}{o:Option (Nat×Nat)}{c:Cap}{f:Int->Rat}(hr:rJ σ.h rb bc n o c f)(q:Rat)(hq:Sz q)(hz:Sz (f (-1))):
  aC EN 186 [.c (.ptr rb 0),.c (.int .i64 (.negSucc 0)),.agg [.bool (rn q),.str (rs q),.str (rd q)]] σ λ_ σ'=>rJ σ'.h rb bc n o c (UZ f (-1) q)/\aU [rb,bc] σ σ':=by
 refine aO (fZ.o _ _) fZ.h ?_
 unfold fZ
 dsimp only
 obtain⟨h0,h1,hpl,hrd,hne⟩:=hr
 have l0:=hW.lt h0
 have l1:=hW.lt h1
 simp(disch:=try exact jz) only[go_sem,z3,ak h0,h0]
 refine⟨⟨?_,?_,hpl,hrd,hne⟩,?_⟩
 .rw[aA];simp[UZ]
 .rw[au _ _ _ _ hne.symm,au _ _ _ _ jb,h1,dJ]
  intro i _
  unfold UZ
  rw[ae jb];grind
 .repeat(first|assumption|exact aU.refl (by assumption)|exact aU.up (by assumption) kf|exact aU.up (aU.refl (by assumption)) kf|refine aU.set1 ?_ kg kf|refine aU.kF ?_ kg|refine aU.nR ?_ kg|refine aU.oH ?_ kf)
def avI{σ:St}(hW:WF σ){rb bc n:Nat}{o:Option (Nat×Nat)}{c:Cap}{f:Int->Rat}(hr:rJ σ.h rb bc n o c f)(q:Rat)(hq:Sz q)(k:Nat)(hz:Sz (f k))(hk:k<n):
  aC EN 186 [.c (.ptr rb 0),.c (.int .i64 (.ofNat k)),.agg [.bool (rn q),.str (rs q),.str (rd q)]] σ λ_ σ'=>rJ σ'.h rb bc n o c (UZ f k q)/\aU [rb,bc] σ σ':=by
 refine aO (fZ.o _ _) fZ.h ?_
 unfold fZ
 dsimp only
 obtain⟨h0,h1,hpl,hrd,hne⟩:=hr
 have l0:=hW.lt h0
 have l1:=hW.lt h1
 simp(disch:=try exact jz) only[go_sem,z3,ak h0,ak h1,h0,h1,hrd,hpl]
 refine⟨⟨?_,?_,hpl,hrd,hne⟩,?_⟩
 .rw[au _ _ _ _ hne,au _ _ _ _ jb,h0]
  unfold UZ
  rw[ae jb,dc]
 .rw[aA]
  congr 2
  refine dJ λi _=>?_
  unfold UZ aN
  by_cases e:i=k
  .rw[ab e,ab jb,e]
  .rw[ae e,ae jb,dc]
 .repeat(first|assumption|exact aU.refl (by assumption)|exact aU.up (by assumption) kf|exact aU.up (aU.refl (by assumption)) kf|refine aU.set1 ?_ kg kf|refine aU.kF ?_ kg|refine aU.nR ?_ kg|refine aU.oH ?_ kf)
def apb{σ:St}(hW:WF σ){rb bc n:Nat}{o:Option (Nat×Nat)}{c:Cap}{f:Int->Rat}(hr:rJ σ.h rb bc n o c f)(q:Rat)(hq:Sz q)(k:Int)(hz:Sz (f k))(hk:k=-1\/(0<=k/\k<n)):
  aC EN 186 [.c (.ptr rb 0),.c (.int .i64 k),.agg [.bool (rn q),.str (rs q),.str (rd q)]] σ λ_ σ'=>rJ σ'.h rb bc n o c (UZ f k q)/\aU [rb,bc] σ σ':=by
 rcases hk with rfl|⟨h1,h2⟩
 .exact avH hW hr q hq hz
 .obtain⟨j,rfl⟩:=cw h1
  exact avI hW hr q hq j hz jb
theorem rJ.fr{σ σ':St}{rb bc n:Nat}{o:Option (Nat×Nat)}{c:Cap}{f:Int->Rat}(hW:WF σ)(hf:Fr σ σ')(hr:rJ σ.h rb bc n o c f):rJ σ'.h rb bc n o c f:=
 ⟨hf.get hW hr.r,hf.get hW hr.c,hr.pl,hr.rd,hr.ne⟩
def u1:1<=256^uK:=dx jj
def aeQ(t:eH)(p:Int×Rat)(c:Int):mF (t++[p]) c=mF t c+if c=p.1 then p.2 else 0:=by
 induction t with
 |nil=>
  show(if p.1=c then p.2 else 0)+0=0+if c=p.1 then p.2 else 0
  by_cases h:p.1=c
  .rw[ab h,ab h.symm];grind
  .rw[ae h,ae (Ne.symm h)]
 |cons r t ih=>
  show(if r.1=c then r.2 else 0)+mF (t++[p]) c=(if r.1=c then r.2 else 0)+mF t c+_
  rw[ih];grind
def shF(f:Int->Rat)(t:eH)(u:Rat)(c:Int):Rat:=f c+mF t c*u
def acF(f:Int->Rat)(u:Rat):shF f [] u=f:=by funext c;show f c+0*u=f c;grind
def XR(f:Int->Rat)(t:eH)(p:Int×Rat)(u:Rat):UZ (shF f t u) p.1 (p.2*u)=shF f (t++[p]) u:=by funext c;unfold UZ shF;rw[aeQ];split<;>grind
theorem take_snoc{α:Type}[Inhabited α]{t:List α}{j:Nat}(h:j<t.length):t.take (j+1)=t.take j++[ix t j]:=by rw[bW h]
theorem gJ{α:Type}[Inhabited α]{t:List α}{j:Nat}(h:j<t.length):ix t j∈t:=by rw[fE h];exact List.getElem_mem h
def acG{σ0 σ:St}(hW0:WF σ0)(hf:Fr σ0 σ){rb bc n:Nat}{o:Option (Nat×Nat)}{c:Cap}{f:Int->Rat}(hrb:σ0.aj<=rb)(hbc:σ0.aj<=bc)(hr:rJ σ.h rb bc n o c f)
  (t:eH) (G:B) (hG:HL σ0.h 4 G t.length λj=>Ad (ix t j)) (x:Rat) (hx:Sz x) (hs:Sz (aW t)) (h0:aW t≠0) (hqz:Sz (x/aW t)){D k:Nat}(hD:Ce D) (hZ:∀c,Zk D k (f c))
  (hp:∀p∈t,(p.1=-1\/(0<=p.1/\p.1<n))/\Sz p.2/\Zk D 1 (p.2*(x/aW t))) (hk:k+t.length<=256^uK) (hn:t.length<=1000000):
  aC EN 187 [.c (.ptr rb 0),.agg (jQ G (aW t)),.agg [.bool (rn x),.str (rs x),.str (rd x)]] σ λ_ σ'=>rJ σ'.h rb bc n o c (shF f t (x/aW t))/\(∀c,Zk D (k+t.length) (shF f t (x/aW t) c))/\aU [rb,bc] σ σ':=by
 refine aO (ku.o _ _) ku.h ?_
 unfold ku jQ
 dsimp only
 have l0:=hf.wf.lt hr.r
 have l1:=hf.wf.lt hr.c
 have hlen:=hG.len
 have hkn:=hG.kn
 have hu:Hu x (aW t)=x/aW t:=by unfold Hu;rw[ae h0]
 generalize x/aW t=u at*
 have hW:=hf.wf
 simp(disch:=try exact jz) only[go_sem,z3,hlen,hu,hkn]
 refine bK.st (Fr σ) (fr) λhF=>?_
 refine aF (λm tm σ'=>∃j,m=t.length-j/\j<=t.length/\Tr.ah tm 0=.c (.ptr rb 0)/\Tr.ah tm 6=.c (.ptr (σ.aj+1+1) 0)/\Tr.ah tm 18=.c G/\Tr.ah tm 19=.c (.int .i64 (.ofNat t.length))/\Tr.ah tm 20=.c (.int .i64 (.ofNat j))
  /\σ'.h (σ.aj+1+1)=some ⟨[.bool (rn u),.str (rs u),.str (rd u)],none⟩/\rJ σ'.h rb bc n o c (shF f (t.take j) u)/\(∀c,Zk D (k+j) (shF f (t.take j) u c))/\aU [rb,bc] σ σ'/\σ.aj+3<=σ'.aj) t.length ?_ ?_
 .refine⟨0,jb,jb,?_⟩
  simp(disch:=try exact jz) only[go_sem,z3,am,cM,acF]
  exact⟨hr.fr hf.wf hF,hZ,hF.ex _,jb⟩
 .rintro m tm σ' ⟨j,rfl,hj,t0,t6,nJ,t19,t20,hq,hr',hZ',hf',hnx⟩
  simp(disch:=try exact jz) only[go_sem,z3,t0,t6,nJ,t19,t20]
  refine aH (λhlt=>?_) (λhlt=>?_)
  .obtain⟨b,o',c',rfl,hld⟩:=hG.pos jb
   have hld:=hld j hlt
   have hb0:=hW0.dF hld
   have hld:=hf'.ld hf.wf (by simp;omega) (hf.ld hW0 hld)
   have hpp:=hp _ (gJ hlt)
   unfold Ad at hld
   have hb:=hf'.wf.dF hld
   have hsn:=XR f (t.take j) (ix t j) u
   rw[<-take_snoc hlt]at hsn
   generalize ix t j=p at*
   obtain⟨hp1,hp2,hp3⟩:=hpp
   simp(disch:=try exact jz) only[go_sem,z3,t0,t6,nJ,t19,t20,hld,ak hq]
   refine aC.st (Fr σ') (by have hW':=hf'.wf;exact fr) λhF=>?_
   refine(apb hF.wf (hr'.fr hf'.wf hF) _ (hp3.sz hD u1) _ ((hZ' _).sz hD (aw jb hk)) hp1).mono ?_
   rintro _ σ2 ⟨hr2,hf2⟩
   have hf3:aU [rb,bc] σ' σ2:=aU.trans (hF.ex _) hf2
   have hl2:σ'.aj+1<=σ2.aj:=hf2.le
   have hle:=hf'.le
   simp(disch:=try exact jz) only[go_sem,z3,t0,t6,nJ,t19,t20]
   refine⟨t.length-(j+1),jb,j+1,rfl,jb,rfl,hf3.get hf'.wf (by simp;omega) hq,hsn▸hr2,λc=>?_,hf'.trans hf3,jb⟩
   rw[<-hsn]
   refine(hZ' c).add (l:=1) ?_
   split
   .exact hp3
   .exact Zk.zero
  .have:j=t.length:=jb
   subst this
   rw[cC]at hr' hZ'
   simp(disch:=try exact jz) only[go_sem,z3,t0,t6,nJ,t19,t20]
   exact⟨hr',hZ',hf'⟩
def Iq:gW->Int->Rat
 |[],_=>0
 |t::l,c=>mF t c+Iq l c
def dS:gW->Nat
 |[]=>0
 |t::l=>t.length+dS l
def aeR(l:gW)(t:eH)(c:Int):Iq (l++[t]) c=Iq l c+mF t c:=by
 induction l with
 |nil=>show mF t c+0=0+mF t c;grind
 |cons u l ih=>show mF u c+Iq (l++[t]) c=mF u c+Iq l c+mF t c;rw[ih];grind
def Ov(l:gW)(t:eH):dS (l++[t])=dS l+t.length:=by
 induction l with
 |nil=>show t.length+0=0+t.length;omega
 |cons u l ih=>show u.length+dS (l++[t])=u.length+dS l+t.length;rw[ih];omega
def Ox(l:gW):∀j,dS (l.take j)<=dS l:=by
 induction l with
 |nil=>intro j;simp
 |cons u l ih=>
  intro j
  cases j with
  |zero=>simp[dS]
  |succ j=>rw[gj];have:=ih j;unfold dS;omega
def Oy(l:gW){j:Nat}(h:j<l.length):dS (l.take j)+(ix l j).length<=dS l:=by rw[<-Ov,<-take_snoc h];exact Ox _ _
theorem Oo(l:gW):∀m,dZ l m<=l.length:=by
 induction l with
 |nil=>intro m;exact cT 0
 |cons t l ih=>intro m;unfold dZ;have:=ih (m-aW t);rw[ce];split<;>omega
def U2{α:Type}[Inhabited α](a:α)(l:List α):ix (a::l) 0=a:=rfl
def LJ{α:Type}[Inhabited α](a:α)(l:List α)(j:Nat):ix (a::l) (j+1)=ix l j:=rfl
def Jv(l:gW)(c:Int):∀m,iJ l m c=Iq (l.take (dZ l m)) c+if dZ l m<l.length then mF (ix l (dZ l m)) c*(jC l m/aW (ix l (dZ l m)))else 0:=by
 induction l with
 |nil=>intro m;show(0:Rat)=0+_;simp;grind
 |cons t l ih=>
  intro m
  unfold iJ dZ jC
  by_cases h:m<aW t
  .simp only[ab h]
   rw[ab kc,U2]
   show _=0+_
   grind
  .simp only[ae h]
   rw[ih,gj,LJ]
   simp only[ce,Nat.add_lt_add_iff_right]
   show _=mF t c+Iq _ c+_
   grind
def EH(l:gW)(c:Int)(r:Rat):∀m,jO l m r c=if dZ l m<l.length then mF (ix l (dZ l m)) c*(r/aW (ix l (dZ l m)))else 0:=by
 induction l with
 |nil=>intro m;rfl
 |cons t l ih=>
  intro m
  unfold jO dZ
  by_cases h:m<aW t
  .simp only[ab h]
   rw[ab kc,U2]
  .simp only[ae h]
   rw[ih,LJ]
   simp only[ce,Nat.add_lt_add_iff_right]
def aeS(l:gW):∀m,mG l m=if dZ l m<l.length then some (aW (ix l (dZ l m))-jC l m)else none:=by
 induction l with
 |nil=>intro m;rfl
 |cons t l ih=>
  intro m
  unfold mG dZ jC
  by_cases h:m<aW t
  .simp only[ab h]
   rw[ab kc,U2]
  .simp only[ae h]
   rw[ih,LJ]
   simp only[ce,Nat.add_lt_add_iff_right]
theorem U3(l:gW):∀m,0<=m->0<=jC l m/\(dZ l m<l.length->jC l m<aW (ix l (dZ l m))):=by
 induction l with
 |nil=>intro m h;exact⟨h,λh=>by simp[dZ]at h⟩
 |cons t l ih=>
  intro m h
  unfold dZ jC
  by_cases h2:m<aW t
  .simp only[ab h2];exact⟨h,λ_=>h2⟩
  .simp only[ae h2]
   obtain⟨a,b⟩:=ih (m-aW t) kd
   exact⟨a,λh=>by rw[LJ];exact b (by simp only[ce]at h;omega)⟩
theorem Oz(l:gW):∀m,jC l m=m-BZ l (dZ l m):=by
 induction l with
 |nil=>intro m;show m=m-0;grind
 |cons t l ih=>
  intro m
  unfold dZ jC
  by_cases h:m<aW t
  .simp only[ab h];show m=m-0;grind
  .simp only[ae h]
   rw[ih]
   show _=m-(aW t+BZ l _)
   grind
structure OA(D n:Nat)(l:gW):Prop where
 len:l.length<=1000000
 tl:∀t∈l,t.length<=1000000
 st:∀t∈l,Sz (aW t)
 id:∀t∈l,∀p∈t,p.1=-1\/(0<=p.1/\p.1<n)
 sp:∀t∈l,∀p∈t,Sz p.2
 zp:∀t∈l,∀p∈t,Zk D 1 p.2
structure OB(D:Nat)(l:gW)(m x:Rat):Prop where
 cum:∀k,k<=l.length->Sz (m-BZ l k)
 nn:0<=m
 sx:Sz x
 q:dZ l m<l.length->Sz (x/aW (ix l (dZ l m)))
 z:dZ l m<l.length->∀p∈ix l (dZ l m),Zk D 1 (p.2*(x/aW (ix l (dZ l m))))
def OB.ne{D:Nat}{l:gW}{m x:Rat}(h:OB D l m x)(hf:dZ l m<l.length):aW (ix l (dZ l m))≠0:=by have h1:=U3 l m h.nn;have h2:=h1.2 hf;intro e;rw[e]at h2;have:=h1.1;grind
def Ip.tier{h:Tr Bk}{v:B}{l:gW}(hl:Ip h v l){j:Nat}(hj:j<l.length):∃b o c G,v=.sl b o l.length c/\ld h b (o+j*4) 4 true=some (.agg (jQ G (aW (ix l j))))/\HL h 4 G (ix l j).length (λi=>Ad (ix (ix l j) i))/\b<0+b+1:=by obtain⟨G,hG,-,hP⟩:=hl;obtain⟨b,o,c,e,hld⟩:=hG.pos jb;exact⟨b,o,c,G j,e,hld j hj,hP j hj,jb⟩
def acH{σ0 σ:St}(hW0:WF σ0)(hf:Fr σ0 σ){rb bc n:Nat}{o:Option (Nat×Nat)}{c:Cap}{f:Int->Rat}(hrb:σ0.aj<=rb)(hbc:σ0.aj<=bc)(hr:rJ σ.h rb bc n o c f)
  (l:gW) (v:B) (hL:Ip σ0.h v l) (m x:Rat){D k:Nat}(hD:Ce D) (hl:OA D n l) (hs:OB D l m x) (hm:Sz m) (hZ:∀c,Zk D k (f c)) (hk:k+dS l<=256^uK):
  aC EN 160 [.c v,.agg [.bool (rn m),.str (rs m),.str (rd m)],.agg [.bool (rn x),.str (rs x),.str (rd x)],.c (.ptr rb 0)] σ λ_ σ'=>rJ σ'.h rb bc n o c (λc=>f c+jO l m x c)/\(∀c,Zk D (k+dS l) (f c+jO l m x c))/\aU [rb,bc] σ σ':=by
 refine aO (jY.o _ _) jY.h ?_
 unfold jY
 dsimp only
 have l0:=hf.wf.lt hr.r
 have l1:=hf.wf.lt hr.c
 have hlen:=hL.choose_spec.1.len
 simp(disch:=try exact jz) only[go_sem,z3,hlen]
 have hF:=Fr.new (Fr.new (Fr.refl hf.wf) ⟨[.bool (rn m),.str (rs m),.str (rd m)],none⟩) ⟨[.bool (rn x),.str (rs x),.str (rd x)],none⟩
 refine(UY l v m _ hF.wf (hL.fr hW0 (hf.trans hF)) (λi hi=>hl.st _ (gJ hi)) hs.cum hl.len).mono ?_
 rintro _ σ2 ⟨rfl,hf2⟩
 have hF2:=hF.trans hf2
 have hp2:σ2.h (σ.aj+1)=some ⟨[.bool (rn x),.str (rs x),.str (rd x)],none⟩:=hf2.get hF.wf (aA _ _ _)
 have hl2:σ.aj+1+1<=σ2.aj:=hf2.le
 simp(disch:=try exact jz) only[go_sem,z3,hlen]
 refine aH (λhlt=>?_) (λhlt=>?_)
 .obtain⟨b,o',c',G,rfl,hld,hP,-⟩:=hL.tier hlt
  have hb0:=hW0.dF hld
  have hld:=hF2.ld hf.wf (hf.ld hW0 hld)
  unfold jQ at hld
  have hb:=hF2.wf.dF hld
  have KE:=gJ hlt
  simp(disch:=try exact jz) only[go_sem,z3,hld,ak hp2,hP.kn]
  refine aC.st (Fr σ2) (by have hW2:=hF2.wf;exact fr) λhF3=>?_
  have nX:=hF2.trans hF3
  have hnp:=Oy l hlt
  refine(acG hW0 (hf.trans nX) hrb hbc (hr.fr hf.wf nX) (ix l (dZ l m)) G hP x hs.sx (hl.st _ KE) (hs.ne hlt) (hs.q hlt) hD hZ (λp hp=>⟨hl.id _ KE p hp,hl.sp _ KE p hp,hs.z hlt p hp⟩) (aw jb hk) (hl.tl _ KE)).mono ?_
  rintro _ σ4 ⟨hr4,hZ4,hf4⟩
  have e:shF f (ix l (dZ l m)) (x/aW (ix l (dZ l m)))=λc=>f c+jO l m x c:=by funext c;rw[EH,ab hlt];rfl
  rw[e]at hr4 hZ4
  simp(disch:=try exact jz) only[go_sem,z3]
  exact⟨hr4,λc=>(hZ4 c).mono jb,(nX.ex _).trans hf4⟩
 .have e:(λc=>f c+jO l m x c)=f:=by funext c;rw[EH,ae hlt,dc]
  have e2:∀c,f c+jO l m x c=f c:=λc=>cf e c
  simp(disch:=try exact jz) only[go_sem,z3,e,e2]
  have hr2:=hr.fr hf.wf hF2
  have b0:=hF2.wf.lt hr2.r
  have b1:=hF2.wf.lt hr2.c
  refine⟨hr2.set2 jb jb,λc=>(hZ c).mono jb,Fr.ex (by have hW2:=hF2.wf;exact fr) _⟩
def apc{σ:St}(hW:WF σ)(l:gW)(v:B)(hL:Ip σ.h v l)(m:Rat)(hl:l.length<=1000000)(hst:∀t∈l,Sz (aW t))(hs:∀k,k<=l.length->Sz (m-BZ l k)):
  aC EN 223 [.c v,.agg [.bool (rn m),.str (rs m),.str (rd m)]] σ λr σ'=>r=(match mG l m with|some g=>.aV (.agg [.bool (rn g),.str (rs g),.str (rd g)]) (.aV (.c (.bool true)) .tnil)|none=>.aV (.agg [.bool (rn 0),.str (rs 0),.str (rd 0)]) (.aV (.c (.bool false)) .tnil))/\Fr σ σ':=by
 refine aO (lZ.o _ _) lZ.h ?_
 unfold lZ
 dsimp only
 have hlen:=hL.choose_spec.1.len
 simp(disch:=try exact jz) only[go_sem,z3,hlen]
 have hF:=Fr.new (Fr.new (Fr.refl hW) ⟨[.bool (rn m),.str (rs m),.str (rd m)],none⟩) ⟨[.bool (rn 0),.str (rs 0),.str (rd 0)],none⟩
 refine(UY l v m _ hF.wf (hL.fr hW hF) (λi hi=>hst _ (gJ hi)) hs hl).mono ?_
 rintro _ σ2 ⟨rfl,hf2⟩
 have hF2:=hF.trans hf2
 have hp2:σ2.h (σ.aj+1)=some ⟨[.bool (rn 0),.str (rs 0),.str (rd 0)],none⟩:=hf2.get hF.wf (aA _ _ _)
 have hl2:σ.aj+1+1<=σ2.aj:=hf2.le
 have hfl:=Oo l m
 rw[aeS]
 simp(disch:=try exact jz) only[go_sem,z3,hlen]
 refine aH (λhlt=>?_) (λhlt=>?_)
 .rw[ae jb]
  simp(disch:=try exact jz) only[go_sem,z3,ak hp2,aI hp2,hp2]
  exact fr
 .have hlt:dZ l m<l.length:=jb
  rw[ab hlt]
  obtain⟨b,o',c',G,rfl,hld,hP,-⟩:=hL.tier hlt
  have hld:=hF2.ld hW hld
  unfold jQ at hld
  have hb:=hF2.wf.dF hld
  have KE:=hst _ (gJ hlt)
  have hlm:Sz (jC l m):=by rw[Oz];exact hs _ hfl
  simp(disch:=try exact jz) only[go_sem,z3,hld,y9 hld,ak hp2,aI hp2,hp2]
  exact fr
def Jw(f:Int->Rat)(l:gW)(c:Int):Rat:=f c+Iq l c
def aip(f:Int->Rat):Jw f []=f:=by funext c;show f c+0=f c;grind
def aeT(f:Int->Rat)(l:gW)(t:eH):shF (Jw f l) t 1=Jw f (l++[t]):=by funext c;unfold shF Jw;rw[aeR];grind
def ape{σ0 σ:St}(hW0:WF σ0)(hf:Fr σ0 σ){rb bc n:Nat}{o:Option (Nat×Nat)}{c:Cap}{f:Int->Rat}(hrb:σ0.aj<=rb)(hbc:σ0.aj<=bc)(hr:rJ σ.h rb bc n o c f)
  (l:gW) (v:B) (hL:Ip σ0.h v l) (m:Rat){D k:Nat}(hD:Ce D) (hl:OA D n l) (hs:OB D l m (jC l m)) (hm:Sz m) (hZ:∀c,Zk D k (f c)) (hk:k+dS l<=256^uK) (hpos:0<l.length):
  aC EN 145 [.c v,.agg [.bool (rn m),.str (rs m),.str (rd m)],.c (.ptr rb 0)] σ λ_ σ'=>rJ σ'.h rb bc n o c (λc=>f c+iJ l m c)/\(∀c,Zk D (k+dS l) (f c+iJ l m c))/\aU [rb,bc] σ σ':=by
 refine aO (lV.o _ _) lV.h ?_
 unfold lV
 dsimp only
 have l0:=hf.wf.lt hr.r
 have l1:=hf.wf.lt hr.c
 have hlen:=hL.choose_spec.1.len
 simp(disch:=try exact jz) only[go_sem,z3,hlen]
 have hF:=Fr.new (Fr.refl hf.wf) ⟨[.bool (rn m),.str (rs m),.str (rd m)],none⟩
 refine(UY l v m _ hF.wf (hL.fr hW0 (hf.trans hF)) (λi hi=>hl.st _ (gJ hi)) hs.cum hl.len).mono ?_
 rintro _ σ2 ⟨rfl,hf2⟩
 have hF2:=hF.trans hf2
 have hl2:σ.aj+1<=σ2.aj:=hf2.le
 have hfl:=Oo l m
 have hll:=hl.len
 obtain⟨G,hG,hcap,hP⟩:=hL
 obtain⟨b,o',c0,rfl,vS⟩:=hG.pos hpos
 obtain⟨v',hv',-,⟨h0,-⟩|⟨b2,o2,c2,c',h2,rfl⟩⟩:=arx hcap (.inr ⟨b,o',c0,rfl,hpos⟩) hfl 4
 .omega
 cases h2
 simp(disch:=try exact jz) only[go_sem,z3,hlen,hv']
 refine bK.st (Fr σ2) (by have hW2:=hF2.wf;exact fr) λhF3=>?_
 have nX:=hF2.trans hF3
 refine aF (λq tm σ'=>∃j,q=dZ l m-j/\j<=dZ l m/\Tr.ah tm 0=.c (.sl b o' l.length c0)/\Tr.ah tm 2=.c (.ptr rb 0)/\Tr.ah tm 6=.c (.int .i64 (.ofNat (dZ l m)))/\Tr.ah tm 7=.c (.ptr σ2.aj 0)
  /\Tr.ah tm 20=.c (.sl b o' (dZ l m) c')/\Tr.ah tm 21=.c (.int .i64 (.ofNat (dZ l m)))/\Tr.ah tm 22=.c (.int .i64 (.ofNat j))
  /\σ'.h σ2.aj=some ⟨[.bool (rn (jC l m)),.str (rs (jC l m)),.str (rd (jC l m))],none⟩/\rJ σ'.h rb bc n o c (Jw f (l.take j))/\(∀c,Zk D (k+dS (l.take j)) (Jw f (l.take j) c))/\aU [rb,bc] σ σ'/\σ2.aj+1<=σ'.aj) (dZ l m) ?_ ?_
 .refine⟨0,jb,jb,?_⟩
  simp(disch:=try exact jz) only[go_sem,z3,am,cM,aip]
  exact⟨hr.fr hf.wf nX,λc=>(hZ c).mono jb,nX.ex _,jp⟩
 .rintro q tm σ' ⟨j,rfl,hj,t0,t2,t6,t7,t20,t21,t22,hq,hr',hZ',hf',hnx⟩
  simp(disch:=try exact jz) only[go_sem,z3,t0,t2,t6,t7,t20,t21,t22]
  refine aH (λhlt=>?_) (λhlt=>?_)
  .have hjl:j<l.length:=jb
   have KE:=gJ hjl
   have EI:=hP j hjl
   have htl:=hl.tl _ KE
   have hpl:=EI.len
   have aeU:=vS j hjl
   have hb0:=hW0.dF aeU
   have hld:=hf'.ld hf.wf (by simp;omega) (hf.ld hW0 aeU)
   unfold jQ at hld
   have hb:=hf'.wf.dF hld
   simp(disch:=try exact jz) only[go_sem,z3,t0,t2,t6,t7,t20,t21,t22,hld,EI.kn,hpl]
   refine bK.st (Fr σ') (by have hW2:=hf'.wf;exact fr) λgU=>?_
   refine aF (λq tm σ3=>∃i,q=(ix l j).length-i/\i<=(ix l j).length/\Tr.ah tm 0=.c (.sl b o' l.length c0)/\Tr.ah tm 2=.c (.ptr rb 0)/\Tr.ah tm 6=.c (.int .i64 (.ofNat (dZ l m)))/\Tr.ah tm 7=.c (.ptr σ2.aj 0)
    /\Tr.ah tm 20=.c (.sl b o' (dZ l m) c')/\Tr.ah tm 21=.c (.int .i64 (.ofNat (dZ l m)))/\Tr.ah tm 22=.c (.int .i64 (.ofNat j))/\Tr.ah tm 27=.c (G j)/\Tr.ah tm 28=.c (.int .i64 (.ofNat (ix l j).length))/\Tr.ah tm 29=.c (.int .i64 (.ofNat i))
    /\rJ σ3.h rb bc n o c (shF (Jw f (l.take j)) ((ix l j).take i) 1)/\(∀c,Zk D (k+dS (l.take j)+i) (shF (Jw f (l.take j)) ((ix l j).take i) 1 c))/\aU [rb,bc] σ' σ3) (ix l j).length ?_ ?_
   .refine⟨0,jb,jb,?_⟩
    simp(disch:=try exact jz) only[go_sem,z3,t0,t2,t6,t7,t20,t21,t22,am,cM,acF]
    exact⟨hr'.fr hf'.wf gU,hZ',gU.ex _⟩
   .rintro q VU σ3 ⟨i,rfl,hi,t0,t2,t6,t7,t20,t21,t22,t27,t28,t29,hr3,hZ3,hf3⟩
    simp(disch:=try exact jz) only[go_sem,z3,t0,t2,t6,t7,t20,t21,t22,t27,t28,t29]
    refine aH (λY5=>?_) (λY5=>?_)
    .obtain⟨b3,o3,c3,e3,uU⟩:=EI.pos jb
     rw[e3]at t27
     have uU:=uU i Y5
     have hb3:=hW0.dF uU
     have hlx:=(hf'.trans hf3).ld hf.wf (by simp;omega) (hf.ld hW0 uU)
     unfold Ad at hlx
     have hb4:=hf3.wf.dF hlx
     have hsn:=XR (Jw f (l.take j)) ((ix l j).take i) (ix (ix l j) i) 1
     rw[<-take_snoc Y5,Rat.mul_one]at hsn
     have hpm:=gJ Y5
     have hid:=hl.id _ KE _ hpm
     have hsp:=hl.sp _ KE _ hpm
     have hzp:=hl.zp _ KE _ hpm
     have hnp:=Oy l hjl
     generalize ix (ix l j) i=p at*
     simp(disch:=try exact jz) only[go_sem,z3,t0,t2,t6,t7,t20,t21,t22,t27,t28,t29,hlx]
     refine aC.st (Fr σ3) (by have hW2:=hf3.wf;exact fr) λlK=>?_
     refine(apb lK.wf (hr3.fr hf3.wf lK) _ hsp _ ((hZ3 _).sz hD (aw jb hk)) hid).mono ?_
     rintro _ σ5 ⟨hr5,hf5⟩
     rw[hsn]at hr5
     simp(disch:=try exact jz) only[go_sem,z3,t0,t2,t6,t7,t20,t21,t22,t27,t28,t29]
     refine⟨(ix l j).length-(i+1),jb,i+1,rfl,jb,e3.symm▸rfl,rfl,hr5,λc=>?_,hf3.trans ((lK.ex _).trans hf5)⟩
     rw[<-hsn]
     refine(hZ3 c).add (l:=1) ?_
     split
     .exact hzp
     .exact Zk.zero
    .have:i=(ix l j).length:=jb
     subst this
     rw[cC,aeT,<-take_snoc hjl]at hr3 hZ3
     have hnp:=Ov (l.take j) (ix l j)
     rw[<-take_snoc hjl]at hnp
     have hfx:=hf3.le
     have hqx:=hf3.get hf'.wf (show¬σ2.aj∈[rb,bc] by simp;omega) hq
     simp(disch:=try exact jz) only[go_sem,z3,t0,t2,t6,t7,t20,t21,t22,t27,t28,t29]
     exact⟨dZ l m-(j+1),jb,j+1,rfl,jb,rfl,hqx,hr3,λc=>(hZ3 c).mono jb,hf'.trans hf3,jb⟩
  .have:j=dZ l m:=jb
   subst this
   simp(disch:=try exact jz) only[go_sem,z3,t0,t2,t6,t7,t20,t21,t22]
   refine aH (λhlf=>?_) (λhlf=>?_)
   .have KE:=gJ hlf
    have aeU:=vS _ hlf
    have hb0:=hW0.dF aeU
    have hld:=hf'.ld hf.wf (by simp;omega) (hf.ld hW0 aeU)
    unfold jQ at hld
    have hb:=hf'.wf.dF hld
    have hnp:=Oy l hlf
    simp(disch:=try exact jz) only[go_sem,z3,t0,t2,t6,t7,t20,t21,t22,hld,ak hq,(hP _ hlf).kn]
    refine(acG hW0 (hf'.to hf (by simp;omega)) hrb hbc hr' (ix l (dZ l m)) (G (dZ l m)) (hP _ hlf) (jC l m) hs.sx (hl.st _ KE) (hs.ne hlf) (hs.q hlf) hD hZ' (λp hp=>⟨hl.id _ KE p hp,hl.sp _ KE p hp,hs.z hlf p hp⟩) (aw jb hk) (hl.tl _ KE)).mono ?_
    rintro _ σ4 ⟨hr4,hZ4,hf5⟩
    have e:shF (Jw f (l.take (dZ l m))) (ix l (dZ l m)) (jC l m/aW (ix l (dZ l m)))=λc=>f c+iJ l m c:=by funext c;rw[Jv,ab hlf];unfold shF Jw;grind
    rw[e]at hr4 hZ4
    simp(disch:=try exact jz) only[go_sem,z3]
    exact⟨hr4,λc=>(hZ4 c).mono jb,hf'.trans hf5⟩
   .have e:Jw f (l.take (dZ l m))=λc=>f c+iJ l m c:=by funext c;rw[Jv,ae hlf];unfold Jw;grind
    have hnp:=Ox l (dZ l m)
    rw[e]at hr' hZ'
    simp(disch:=try exact jz) only[go_sem,z3]
    exact⟨hr',λc=>(hZ' c).mono jb,hf'⟩
theorem mM{α:Type}(l:List α)(a:α)(f:α->Rat):aK (l++[a]) f=aK l f+f a:=by
 induction l with
 |nil=>show f a+0=0+f a;grind
 |cons b l ih=>show f b+aK (l++[a]) f=f b+aK l f+f a;rw[ih];grind
def U4{α:Type}{D k:Nat}{f:α->Rat}:∀{l:List α},(∀a∈l,Zk D k (f a))->Zk D (k*l.length) (aK l f)
 |[],_=>Zk.zero
 |a::l,h=>by have:=(h a kc).add (U4 (l:=l) λb hb=>h b (by simp[hb]));rw[ce,Nat.mul_succ,fq];exact this
def aiq{α:Type}{l:List α}{a:α}{j:Nat}(h:a∈l.take j):a∈l:=et h
def Qg(ms:List Nat)(i:Nat):B:=.int .i64 (.ofNat (ix ms i))
def Ir{σ:St}(hW:WF σ){n:Nat}(ms:List Nat)(mv lv rv:B)(f:Nat->Rat)(hm:HC σ.h mv ms.length (Qg ms))(hv:HL σ.h 3 rv n λi=>gy (f i))(hms:∀i∈ms,i<n)(hl:ms.length<=1000000)
  {D k:Nat}(hD:Ce D) (hZ:∀i,i<n->Zk D k (f i)) (hk:k*(ms.length+1)<=256^uK):
  aC EN 146 [.agg [mv,lv],.c rv] σ λr σ'=>r=.agg [.bool (rn (aK ms f)),.str (rs (aK ms f)),.str (rd (aK ms f))]/\Fr σ σ':=by
 refine aO (lW.o _ _) lW.h ?_
 unfold lW
 dsimp only
 have hlen:=hm.len
 simp(disch:=try exact jz) only[go_sem,z3,hlen,hm.kn]
 refine bK.st (Fr σ) (fr) λhF=>?_
 refine aF (λq tm σ'=>∃j,q=ms.length-j/\j<=ms.length/\Tr.ah tm 1=.c rv/\Tr.ah tm 4=.c (.ptr (σ.aj+1) 0)/\Tr.ah tm 5=.c (.ptr (σ.aj+1+1) 0)/\Tr.ah tm 10=.c mv/\Tr.ah tm 11=.c (.int .i64 (.ofNat ms.length))/\Tr.ah tm 12=.c (.int .i64 (.ofNat j))
  /\σ'.h (σ.aj+1)=some ⟨[.bool (rn 0),.str (rs 0),.str (rd 0)],none⟩/\σ'.h (σ.aj+1+1)=some ⟨[.bool (rn (aK (ms.take j) f)),.str (rs (aK (ms.take j) f)),.str (rd (aK (ms.take j) f))],none⟩/\Fr σ σ'/\σ.aj+3<=σ'.aj) ms.length ?_ ?_
 .refine⟨0,jb,jb,?_⟩
  simp(disch:=try exact jz) only[go_sem,z3,am,cM,show aK ([]:List Nat) f=0 from rfl]
  exact⟨hF,jb⟩
 .rintro q tm σ' ⟨j,rfl,hj,t1,t4,t5,t10,t11,t12,hq1,hq2,hf',hnx⟩
  simp(disch:=try exact jz) only[go_sem,z3,t1,t4,t5,t10,t11,t12]
  refine aH (λhlt=>?_) (λhlt=>?_)
  .obtain⟨b,o,c,rfl,hld⟩:=hm.pos jb
   have hld:=hf'.ld hW (hld j hlt)
   have hn:=hms _ (gJ hlt)
   obtain⟨b2,o2,c2,rfl,EW⟩:=hv.pos jb
   have EW:=hf'.ld hW (EW _ hn)
   have hb2:=hf'.wf.dF EW
   unfold Qg at hld
   unfold gy at EW
   have hsn:=mM (ms.take j) (ix ms j) f
   rw[<-take_snoc hlt]at hsn
   have hz1:Sz (f (ix ms j)):=(hZ _ hn).sz hD (aw (gi _ jb) hk)
   have hz2:Sz (aK (ms.take j) f):=(U4 λa ha=>hZ a (hms a (aiq ha))).sz hD (aw (cA _ (by rw[du];omega)) hk)
   simp(disch:=try exact jz) only[go_sem,z3,t1,t4,t5,t10,t11,t12,hld,EW,ak hq2,hq1,hq2,aI hq2,<-hsn]
   refine⟨ms.length-(j+1),jb,j+1,rfl,jb,rfl,rfl,?_,jb⟩
   exact fr
  .have:j=ms.length:=jb
   subst this
   rw[cC]at hq2
   simp(disch:=try exact jz) only[go_sem,z3,t1,t4,t5,t10,t11,t12,ak hq2,hq1,aI hq1]
   exact fr
structure Jy(h:Tr Bk)(rv pv:B)(e:fJ):Prop where
 rk:Ip h rv e.rk
 ps:∃Gm Gl:Nat->B,HL h 2 pv e.ps.length (λi=>[Gm i,Gl i])/\∀i,i<e.ps.length->HC h (Gm i) (ix e.ps i).1.length (Qg (ix e.ps i).1)/\Ip h (Gl i) (ix e.ps i).2
theorem Jy.fr{σ σ':St}(hW:WF σ)(hf:Fr σ σ'){rv pv:B}{e:fJ}(h:Jy σ.h rv pv e):Jy σ'.h rv pv e:=by obtain⟨h1,Gm,Gl,h2,h3⟩:=h;exact⟨h1.fr hW hf,Gm,Gl,h2.fr hW hf,λi hi=>⟨(h3 i hi).1.fr hW hf,(h3 i hi).2.fr hW hf⟩⟩
def jB(n:Nat)(rv pv:B)(t:Rat):List B:=[.int .i64 (.ofNat n),rv,pv,.bool (rn t),.str (rs t),.str (rd t)]
def Ip.kn{h:Tr Bk}{v:B}{l:gW}(hl:Ip h v l):v.kn=true:=hl.choose_spec.1.kn
def Jy.VX{h:Tr Bk}{rv pv:B}{e:fJ}(hl:Jy h rv pv e):pv.kn=true:=by obtain⟨_,Gm,Gl,h2,h3⟩:=hl;exact h2.kn
structure avJ(σ σ':St)(r:V)(n:Nat)(f:Nat->Rat)(b:Nat):Prop where
 r:r=.c (.sl b 0 n (.ex n))
 c:σ'.h b=some ⟨cO n f,none⟩
 b:σ.aj<=b
def LK{σ:St}(hW:WF σ){n:Nat}{rv pv:B}(t:Rat)(e:fJ)(hL:Jy σ.h rv pv e)(m:Rat){D:Nat}(hD:Ce D)(hn:n<=1000000)(hl:OA D n e.rk)(hs:OB D e.rk m (jC e.rk m))(hm:Sz m)(hk:dS e.rk<=256^uK)(hpos:0<e.rk.length):
  aC EN 89 [.agg (jB n rv pv t),.agg [.bool (rn m),.str (rs m),.str (rd m)]] σ λr σ'=>(∃b,avJ σ σ' r n (λi=>AA e m i) b)/\(∀i:Nat,Zk D (dS e.rk) (AA e m i))/\Fr σ σ':=by
 refine aO (jT.o _ _) jT.h ?_
 unfold jT jB
 dsimp only
 simp(disch:=try exact jz) only[go_sem,z3,hL.rk.kn]
 refine aC.st (Fr σ) (fr) λhF=>?_
 refine(ape (f:=λ_=>0) (k:=0) hW hF jb jb ⟨aA _ _ _,(au _ _ _ _ jb).trans (aA _ _ _),rfl,rfl,jb⟩ e.rk rv hL.rk m hD hl hs hm (λ_=>Zk.zero) jb hpos).mono ?_
 rintro _ σ2 ⟨hr2,hZ2,hf2⟩
 have hz:(λc=>(0:Rat)+iJ e.rk m c)=iJ e.rk m:=by funext c;grind
 have hz2:∀c,(0:Rat)+iJ e.rk m c=iJ e.rk m c:=λc=>by grind
 rw[hz]at hr2
 simp only[hz2,cP]at hZ2
 have h5:=hr2.r
 simp(disch:=try exact jz) only[go_sem,z3,ak h5]
 exact⟨⟨_,rfl,hr2.c,jb⟩,λi=>hZ2 i,hf2.to hF (by simp;omega)⟩
def acJ{σ:St}(hW:WF σ){n:Nat}{rv pv:B}(t:Rat)(e:fJ)(hL:Jy σ.h rv pv e)(m:Rat){D:Nat}(hD:Ce D)(hn:n<=1000000)(hl:OA D n e.rk)(hs:OB D e.rk m 1)(hm:Sz m)(hk:dS e.rk<=256^uK):
  aC EN 159 [.agg (jB n rv pv t),.agg [.bool (rn m),.str (rs m),.str (rd m)]] σ λr σ'=>(∃b,avJ σ σ' r n (λi=>rts e m i) b)/\(∀i:Nat,Zk D (dS e.rk) (rts e m i))/\Fr σ σ':=by
 refine aO (jX.o _ _) jX.h ?_
 unfold jX jB
 dsimp only
 simp(disch:=try exact jz) only[go_sem,z3,hL.rk.kn]
 refine aC.st (Fr σ) (fr) λhF=>?_
 refine(acH (f:=λ_=>0) (k:=0) hW hF jb jb ⟨aA _ _ _,(au _ _ _ _ jb).trans (aA _ _ _),rfl,rfl,jb⟩ e.rk rv hL.rk m 1 hD hl hs hm (λ_=>Zk.zero) jb).mono ?_
 rintro _ σ2 ⟨hr2,hZ2,hf2⟩
 have hz:(λc=>(0:Rat)+jO e.rk m 1 c)=jO e.rk m 1:=by funext c;grind
 have hz2:∀c,(0:Rat)+jO e.rk m 1 c=jO e.rk m 1 c:=λc=>by grind
 rw[hz]at hr2
 simp only[hz2,cP]at hZ2
 have h5:=hr2.r
 simp(disch:=try exact jz) only[go_sem,z3,ak h5]
 exact⟨⟨_,rfl,hr2.c,jb⟩,λi=>hZ2 i,hf2.to hF (by simp;omega)⟩
def acK{σ:St}(hW:WF σ){n b:Nat}{c:Cap}{f:Nat->Rat}(hb:σ.h b=some ⟨cO n f,none⟩)(hn:n<=1000000):
  aC EN 87 [.c (.sl b 0 n c)] σ λr σ'=>(∃b' c' o',r=.c (.sl b' 0 n c')/\σ'.h b'=some ⟨cO n f,o'⟩/\plo o'=true/\Y4 o'=true/\σ.aj<=b'/\b'<σ'.aj)/\Fr σ σ':=by
 refine aO (iP.o _ _) iP.h ?_
 unfold iP
 dsimp only
 have hbl:=hW.lt hb
 by_cases h0:n=0
 .subst h0
  simp(disch:=try exact jz) only[go_sem,z3,hb]
  refine⟨⟨σ.aj,_,none,rfl,aA _ _ _,rfl,rfl,jp,cg _⟩,?_⟩
  exact fr
 .simp(disch:=try exact jz) only[go_sem,z3,hb]
  refine⟨⟨σ.aj+1,_,_,rfl,aA _ _ _,rfl,rfl,jb,cg _⟩,?_⟩
  exact fr
def zF(l:List Nat)(f:Nat->Rat):Int->Rat:=λi=>if 0<=i then(if l.contains i.toNat then 0 else f i.toNat)else 0
def OC(l:List Nat)(f:Nat->Rat):zF l f (-1)=0:=ae jb
def U5(l:List Nat)(f:Nat->Rat)(i:Nat):zF l f i=if l.contains i then 0 else f i:=by unfold zF;rw[ab jb,gC]
def am4(l:List Nat)(f:Nat->Rat)(k n:Nat):cO n (aN (λi=>zF l f i) k 0)=cO n λi=>zF (l++[k]) f i:=by
 refine dJ λi _=>?_;show(if i=k then 0 else zF l f i)=_;rw[U5,U5,List.contains_append];by_cases h:i=k
 .subst h;simp
 .rw[ae h];simp[h]
def flat(ps:List (List Nat×gW)):List Nat:=ps.flatMap λp=>p.1
def aeV(ps:List (List Nat×gW))(p:List Nat×gW):flat (ps++[p])=flat ps++p.1:=by unfold flat;simp
def Ku(e:fJ)(c:Nat):(flat e.ps).contains c=pooled e c:=by
 unfold flat pooled;induction e.ps with
 |nil=>rfl
 |cons p l ih=>rw[im,List.contains_append,List.any_cons,ih]
def air{σ:St}(hW:WF σ){n b:Nat}{rv pv:B}(t:Rat)(e:fJ)(hL:Jy σ.h rv pv e){f:Nat->Rat}(hb:σ.h b=some ⟨cO n f,none⟩){c:Cap}(hn:n<=1000000)(hp:e.ps.length<=1000000)(hm:∀p∈e.ps,p.1.length<=1000000/\∀i∈p.1,i<n):
  aC EN 144 [.agg (jB n rv pv t),.c (.sl b 0 n c)] σ λr σ'=>(∃rb bc o c',r=.c (.ptr rb 0)/\rJ σ'.h rb bc n o c' (zF (flat e.ps) f)/\σ.aj<=rb/\σ.aj<=bc)/\Fr σ σ':=by
 refine aO (kU.o _ _) kU.h ?_
 unfold kU jB
 dsimp only
 simp(disch:=try exact jz) only[go_sem,z3]
 refine aC.st (Fr σ) (fr) λhF=>?_
 refine(acK hF.wf (hF.get hW hb) hn).mono ?_
 rintro _ σ2 ⟨⟨bc,c',o,rfl,h2,hpl,hrd,hbc,hbc2⟩,hf2⟩
 have hF2:=hF.trans hf2
 obtain⟨-,Gm,Gl,hG,hP⟩:=hL
 have hlen:=hG.len
 have hbox:σ2.h σ.aj=some ⟨[.int .i64 (.ofNat n),rv,pv,.bool (rn t),.str (rs t),.str (rd t)],none⟩:=hf2.get hF.wf (aA _ _ _)
 have hl2:σ.aj+1<=σ2.aj:=hf2.le
 have hbc:σ.aj+1<=bc:=hbc
 simp(disch:=try exact jz) only[go_sem,z3,ak hbox,hlen,hG.kn]
 refine aF (λq tm σ'=>∃j,q=e.ps.length-j/\j<=e.ps.length/\Tr.ah tm 5=.c (.ptr σ2.aj 0)/\Tr.ah tm 15=.c pv/\Tr.ah tm 16=.c (.int .i64 (.ofNat e.ps.length))/\Tr.ah tm 17=.c (.int .i64 (.ofNat j))
  /\rJ σ'.h σ2.aj bc n o c' (zF (flat (e.ps.take j)) f)/\Fr σ σ'/\σ2.aj+1<=σ'.aj) e.ps.length ?_ ?_
 .refine⟨0,jb,jb,?_⟩
  simp(disch:=try exact jz) only[go_sem,z3,am,cM]
  refine⟨⟨?_,?_,hpl,hrd,jb⟩,?_,jp⟩
  .rw[aA,OC]
  .rw[au _ _ _ _ jb,h2]
   congr 2
  .exact fr
 .rintro q tm σ' ⟨j,rfl,hj,t5,t15,t16,t17,hr,hf',hnx⟩
  simp(disch:=try exact jz) only[go_sem,z3,t5,t15,t16,t17]
  refine aH (λhlt=>?_) (λhlt=>?_)
  .obtain⟨b2,o2,c2,rfl,hld⟩:=hG.pos jb
   have hld:=hf'.ld hW (hld j hlt)
   have hb2:=hf'.wf.dF hld
   have EI:=hP j hlt
   have hpl2:=EI.1.len
   have hmj:=hm _ (gJ hlt)
   have hfs:=aeV (e.ps.take j) (ix e.ps j)
   rw[<-take_snoc hlt]at hfs
   generalize ix e.ps j=p at*
   simp(disch:=try exact jz) only[go_sem,z3,t5,t15,t16,t17,hld,EI.1.kn,EI.2.kn,hpl2]
   refine bK.st (Fr σ') (by have hW2:=hf'.wf;exact fr) λgU=>?_
   refine aF (λq tm σ3=>∃i,q=p.1.length-i/\i<=p.1.length/\Tr.ah tm 5=.c (.ptr σ2.aj 0)/\Tr.ah tm 15=.c (.sl b2 o2 e.ps.length c2)/\Tr.ah tm 16=.c (.int .i64 (.ofNat e.ps.length))/\Tr.ah tm 17=.c (.int .i64 (.ofNat j))
    /\Tr.ah tm 22=.c (Gm j)/\Tr.ah tm 23=.c (.int .i64 (.ofNat p.1.length))/\Tr.ah tm 24=.c (.int .i64 (.ofNat i))
    /\rJ σ3.h σ2.aj bc n o c' (zF (flat (e.ps.take j)++p.1.take i) f)/\Fr σ σ3/\σ2.aj+1<=σ3.aj) p.1.length ?_ ?_
   .refine⟨0,jb,jb,?_⟩
    simp(disch:=try exact jz) only[go_sem,z3,t5,t15,t16,t17,am,cM,dE]
    exact⟨hr.fr hf'.wf gU,hf'.trans gU,jb⟩
   .rintro q VU σ3 ⟨i,rfl,hi,t5,t15,t16,t17,t22,t23,t24,hr3,hf3,hn3⟩
    simp(disch:=try exact jz) only[go_sem,z3,t5,t15,t16,t17,t22,t23,t24]
    refine aH (λY5=>?_) (λY5=>?_)
    .obtain⟨b3,o3,c3,e3,uU⟩:=EI.1.pos jb
     rw[e3]at t22
     have uU:=hf3.ld hW (uU i Y5)
     unfold Qg at uU
     have hin:=hmj.2 _ (gJ Y5)
     have hzs:=am4 (flat (e.ps.take j)++p.1.take i) f (ix p.1 i) n
     rw[il,<-take_snoc Y5]at hzs
     have avK:=hr3.r
     have avL:=hr3.c
     have hb3:=hf3.wf.lt avL
     simp(disch:=try exact jz) only[go_sem,z3,t5,t15,t16,t17,t22,t23,t24,uU,ak avK,aI avL,hpl,hzs]
     refine⟨p.1.length-(i+1),jb,i+1,rfl,jb,e3.symm▸rfl,rfl,⟨?_,aA _ _ _,hpl,hrd,jb⟩,?_,jb⟩
     .rw[au _ _ _ _ jb,avK,OC,OC]
     .exact fr
    .have:i=p.1.length:=jb
     subst this
     rw[cC,<-hfs]at hr3
     simp(disch:=try exact jz) only[go_sem,z3,t5,t15,t16,t17,t22,t23,t24]
     exact⟨e.ps.length-(j+1),jb,j+1,rfl,jb,rfl,hr3,hf3,jb⟩
  .have:j=e.ps.length:=jb
   subst this
   rw[cC]at hr
   simp(disch:=try exact jz) only[go_sem,z3,t5,t15,t16,t17]
   exact⟨⟨_,_,_,_,rfl,hr,jb,jb⟩,hf'⟩
end Go.Proofs.Xe
