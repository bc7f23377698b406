import Derived.Test.YthkggcakedkboaaGreatDoorZ18
set_option linter.all false
set_option maxRecDepth 100000
namespace Go.Proofs.Xe
open Go.RowKit Go.Proofs.Ins
structure qZ(h:Tr Bk)(rb bc n:Nat)(o:Option (Nat×Nat))(c:Cap)(f:Int->Rat):Prop where
 r:h rb=some ⟨[.sl bc 0 n c,.bool (rn (f (-1))),.str (rs (f (-1))),.str (rd (f (-1)))],none⟩
 c:h bc=some ⟨bU n λi=>f i,o⟩
 pl:plo o=true
 rd:YE o=true
 ne:rb≠bc
def Uz(f:Int->Rat)(k:Int)(q:Rat):Int->Rat:=λc=>f c+if c=k then q else 0
def qZ.set{h:Tr Bk}{rb bc n b:Nat}{o:Option (Nat×Nat)}{c:Cap}{f:Int->Rat}(hr:qZ h rb bc n o c f)(h1:rb≠b)(h2:bc≠b)(k:Bk):qZ (hset h b k) rb bc n o c f:=
 ⟨by rw[au _ _ _ _ h1];exact hr.r,by rw[au _ _ _ _ h2];exact hr.c,hr.pl,hr.rd,hr.ne⟩
def qZ.set2{h:Tr Bk}{rb bc n b:Nat}{o:Option (Nat×Nat)}{c:Cap}{f:Int->Rat}(hr:qZ h rb bc n o c f)(h1:rb≠b)(h2:bc≠b){k k':Bk}:qZ (hset (hset h b k) b k') rb bc n o c f:=(hr.set h1 h2 k).set h1 h2 k'
def auL{σ:St}(hW:WF σ){rb bc n:Nat}{o:Option (Nat×Nat)}{c:Cap}{f:Int->Rat}(hr:qZ σ.h rb bc n o c f)(q:Rat)(hq:Sz q)(hz:Sz (f (-1))):
  aC EN 138 [.c (.ptr rb 0),.c (.int .i64 (.negSucc 0)),.agg [.bool (rn q),.str (rs q),.str (rd q)]] σ λ_ σ'=>qZ σ'.h rb bc n o c (Uz f (-1) q)/\aU [rb,bc] σ σ':=by
 refine aO (fK.o _ _) fK.h ?_
 unfold fK
 dsimp only
 obtain⟨h0,h1,hpl,hrd,hne⟩:=hr
 have l0:=hW.lt h0
 have l1:=hW.lt h1
 simp(disch:=try exact jz) only[go_sem,z3,ak h0,h0]
 refine⟨⟨?_,?_,hpl,hrd,hne⟩,?_⟩
 .rw[aA];simp[Uz]
 .rw[au _ _ _ _ hne.symm,au _ _ _ _ jb,h1,dw]
  intro i _
  unfold Uz
  rw[ae jb];grind
 .repeat(first|assumption|exact aU.refl (by assumption)|exact aU.up (by assumption) kf|exact aU.up (aU.refl (by assumption)) kf|refine aU.set1 ?_ kg kf|refine aU.kH ?_ kg|refine aU.nM ?_ kg|refine aU.oC ?_ kf)
def auM{σ:St}(hW:WF σ){rb bc n:Nat}{o:Option (Nat×Nat)}{c:Cap}{f:Int->Rat}(hr:qZ σ.h rb bc n o c f)(q:Rat)(hq:Sz q)(k:Nat)(hz:Sz (f k))(hk:k<n):
  aC EN 138 [.c (.ptr rb 0),.c (.int .i64 (.ofNat k)),.agg [.bool (rn q),.str (rs q),.str (rd q)]] σ λ_ σ'=>qZ σ'.h rb bc n o c (Uz f k q)/\aU [rb,bc] σ σ':=by
 refine aO (fK.o _ _) fK.h ?_
 unfold fK
 dsimp only
 obtain⟨h0,h1,hpl,hrd,hne⟩:=hr
 have l0:=hW.lt h0
 have l1:=hW.lt h1
 simp(disch:=try exact jz) only[go_sem,z3,ak h0,ak h1,h0,h1,hrd,hpl]
 refine⟨⟨?_,?_,hpl,hrd,hne⟩,?_⟩
 .rw[au _ _ _ _ hne,au _ _ _ _ jb,h0]
  unfold Uz
  rw[ae jb,cY]
 .rw[aA]
  congr 2
  refine dw λi _=>?_
  unfold Uz aN
  by_cases e:i=k
  .rw[ab e,ab jb,e]
  .rw[ae e,ae jb,cY]
 .repeat(first|assumption|exact aU.refl (by assumption)|exact aU.up (by assumption) kf|exact aU.up (aU.refl (by assumption)) kf|refine aU.set1 ?_ kg kf|refine aU.kH ?_ kg|refine aU.nM ?_ kg|refine aU.oC ?_ kf)
def aoq{σ:St}(hW:WF σ){rb bc n:Nat}{o:Option (Nat×Nat)}{c:Cap}{f:Int->Rat}(hr:qZ σ.h rb bc n o c f)(q:Rat)(hq:Sz q)(k:Int)(hz:Sz (f k))(hk:k=-1\/(0<=k/\k<n)):
  aC EN 138 [.c (.ptr rb 0),.c (.int .i64 k),.agg [.bool (rn q),.str (rs q),.str (rd q)]] σ λ_ σ'=>qZ σ'.h rb bc n o c (Uz f k q)/\aU [rb,bc] σ σ':=by
 rcases hk with rfl|⟨h1,h2⟩
 .exact auL hW hr q hq hz
 .obtain⟨j,rfl⟩:=cB h1
  exact auM hW hr q hq j hz jb
theorem qZ.fr{σ σ':St}{rb bc n:Nat}{o:Option (Nat×Nat)}{c:Cap}{f:Int->Rat}(hW:WF σ)(hf:Fr σ σ')(hr:qZ σ.h rb bc n o c f):qZ σ'.h rb bc n o c f:=
 ⟨hf.get hW hr.r,hf.get hW hr.c,hr.pl,hr.rd,hr.ne⟩
def u1:1<=256^uK:=dp jj
def aew(t:dO)(p:Int×Rat)(c:Int):l9 (t++[p]) c=l9 t c+if c=p.1 then p.2 else 0:=by
 induction t with
 |nil=>
  show(if p.1=c then p.2 else 0)+0=0+if c=p.1 then p.2 else 0
  by_cases h:p.1=c
  .rw[ab h,ab h.symm];grind
  .rw[ae h,ae (Ne.symm h)]
 |cons r t ih=>
  show(if r.1=c then r.2 else 0)+l9 (t++[p]) c=(if r.1=c then r.2 else 0)+l9 t c+_
  rw[ih];grind
def shF(f:Int->Rat)(t:dO)(u:Rat)(c:Int):Rat:=f c+l9 t c*u
def ab6(f:Int->Rat)(u:Rat):shF f [] u=f:=by funext c;show f c+0*u=f c;grind
def XA(f:Int->Rat)(t:dO)(p:Int×Rat)(u:Rat):Uz (shF f t u) p.1 (p.2*u)=shF f (t++[p]) u:=by funext c;unfold Uz shF;rw[aew];split<;>grind
theorem take_snoc{α:Type}[Inhabited α]{t:List α}{j:Nat}(h:j<t.length):t.take (j+1)=t.take j++[ix t j]:=by rw[bJ h]
theorem fO{α:Type}[Inhabited α]{t:List α}{j:Nat}(h:j<t.length):ix t j∈t:=by rw[dU h];exact List.getElem_mem h
def ab7{σ0 σ:St}(hW0:WF σ0)(hf:Fr σ0 σ){rb bc n:Nat}{o:Option (Nat×Nat)}{c:Cap}{f:Int->Rat}(hrb:σ0.aj<=rb)(hbc:σ0.aj<=bc)(hr:qZ σ.h rb bc n o c f)
  (t:dO) (G:B) (hG:HL σ0.h 4 G t.length λj=>zN (ix t j)) (x:Rat) (hx:Sz x) (hs:Sz (aV t)) (h0:aV t≠0) (hqz:Sz (x/aV t)){D k:Nat}(hD:Ap D) (hZ:∀c,Zk D k (f c))
  (hp:∀p∈t,(p.1=-1\/(0<=p.1/\p.1<n))/\Sz p.2/\Zk D 1 (p.2*(x/aV t))) (hk:k+t.length<=256^uK) (hn:t.length<=1000000):
  aC EN 139 [.c (.ptr rb 0),.agg (jQ G (aV t)),.agg [.bool (rn x),.str (rs x),.str (rd x)]] σ λ_ σ'=>qZ σ'.h rb bc n o c (shF f t (x/aV t))/\(∀c,Zk D (k+t.length) (shF f t (x/aV t) c))/\aU [rb,bc] σ σ':=by
 refine aO (jY.o _ _) jY.h ?_
 unfold jY jQ
 dsimp only
 have l0:=hf.wf.lt hr.r
 have l1:=hf.wf.lt hr.c
 have hlen:=hG.len
 have hkn:=hG.kn
 have hu:Hq x (aV t)=x/aV t:=by unfold Hq;rw[ae h0]
 generalize x/aV t=u at*
 have hW:=hf.wf
 simp(disch:=try exact jz) only[go_sem,z3,hlen,hu,hkn]
 refine bI.st (Fr σ) (fr) λhF=>?_
 refine aF (λm tm σ'=>∃j,m=t.length-j/\j<=t.length/\Tr.ah tm 0=.c (.ptr rb 0)/\Tr.ah tm 6=.c (.ptr (σ.aj+1+1) 0)/\Tr.ah tm 18=.c G/\Tr.ah tm 19=.c (.int .i64 (.ofNat t.length))/\Tr.ah tm 20=.c (.int .i64 (.ofNat j))
  /\σ'.h (σ.aj+1+1)=some ⟨[.bool (rn u),.str (rs u),.str (rd u)],none⟩/\qZ σ'.h rb bc n o c (shF f (t.take j) u)/\(∀c,Zk D (k+j) (shF f (t.take j) u c))/\aU [rb,bc] σ σ'/\σ.aj+3<=σ'.aj) t.length ?_ ?_
 .refine⟨0,jb,jb,?_⟩
  simp(disch:=try exact jz) only[go_sem,z3,am,cK,ab6]
  exact⟨hr.fr hf.wf hF,hZ,hF.ex _,jb⟩
 .rintro m tm σ' ⟨j,rfl,hj,t0,t6,oK,t19,t20,hq,hr',hZ',hf',hnx⟩
  simp(disch:=try exact jz) only[go_sem,z3,t0,t6,oK,t19,t20]
  refine aH (λhlt=>?_) (λhlt=>?_)
  .obtain⟨b,o',c',rfl,hld⟩:=hG.pos jb
   have hld:=hld j hlt
   have hb0:=hW0.cO hld
   have hld:=hf'.ld hf.wf (by simp;omega) (hf.ld hW0 hld)
   have hpp:=hp _ (fO hlt)
   unfold zN at hld
   have hb:=hf'.wf.cO hld
   have hsn:=XA f (t.take j) (ix t j) u
   rw[<-take_snoc hlt]at hsn
   generalize ix t j=p at*
   obtain⟨hp1,hp2,hp3⟩:=hpp
   simp(disch:=try exact jz) only[go_sem,z3,t0,t6,oK,t19,t20,hld,ak hq]
   refine aC.st (Fr σ') (by have hW':=hf'.wf;exact fr) λhF=>?_
   refine(aoq hF.wf (hr'.fr hf'.wf hF) _ (hp3.sz hD u1) _ ((hZ' _).sz hD (ap jb hk)) hp1).mono ?_
   rintro _ σ2 ⟨hr2,hf2⟩
   have hf3:aU [rb,bc] σ' σ2:=aU.trans (hF.ex _) hf2
   have hl2:σ'.aj+1<=σ2.aj:=hf2.le
   have hle:=hf'.le
   simp(disch:=try exact jz) only[go_sem,z3,t0,t6,oK,t19,t20]
   refine⟨t.length-(j+1),jb,j+1,rfl,jb,rfl,hf3.get hf'.wf (by simp;omega) hq,hsn▸hr2,λc=>?_,hf'.trans hf3,jb⟩
   rw[<-hsn]
   refine(hZ' c).add (l:=1) ?_
   split
   .exact hp3
   .exact Zk.zero
  .have:j=t.length:=jb
   subst this
   rw[cA]at hr' hZ'
   simp(disch:=try exact jz) only[go_sem,z3,t0,t6,oK,t19,t20]
   exact⟨hr',hZ',hf'⟩
def Ih:gy->Int->Rat
 |[],_=>0
 |t::l,c=>l9 t c+Ih l c
def dB:gy->Nat
 |[]=>0
 |t::l=>t.length+dB l
def aex(l:gy)(t:dO)(c:Int):Ih (l++[t]) c=Ih l c+l9 t c:=by
 induction l with
 |nil=>show l9 t c+0=0+l9 t c;grind
 |cons u l ih=>show l9 u c+Ih (l++[t]) c=l9 u c+Ih l c+l9 t c;rw[ih];grind
def Ob(l:gy)(t:dO):dB (l++[t])=dB l+t.length:=by
 induction l with
 |nil=>show t.length+0=0+t.length;omega
 |cons u l ih=>show u.length+dB (l++[t])=u.length+dB l+t.length;rw[ih];omega
def Oc(l:gy):∀j,dB (l.take j)<=dB l:=by
 induction l with
 |nil=>intro j;simp
 |cons u l ih=>
  intro j
  cases j with
  |zero=>simp[dB]
  |succ j=>rw[gb];have:=ih j;unfold dB;omega
def Oe(l:gy){j:Nat}(h:j<l.length):dB (l.take j)+(ix l j).length<=dB l:=by rw[<-Ob,<-take_snoc h];exact Oc _ _
theorem N7(l:gy):∀m,dN l m<=l.length:=by
 induction l with
 |nil=>intro m;exact cL 0
 |cons t l ih=>intro m;unfold dN;have:=ih (m-aV t);rw[bO];split<;>omega
def UA{α:Type}[Inhabited α](a:α)(l:List α):ix (a::l) 0=a:=rfl
def Lc{α:Type}[Inhabited α](a:α)(l:List α)(j:Nat):ix (a::l) (j+1)=ix l j:=rfl
def Jo(l:gy)(c:Int):∀m,iD l m c=Ih (l.take (dN l m)) c+if dN l m<l.length then l9 (ix l (dN l m)) c*(jB l m/aV (ix l (dN l m)))else 0:=by
 induction l with
 |nil=>intro m;show(0:Rat)=0+_;simp;grind
 |cons t l ih=>
  intro m
  unfold iD dN jB
  by_cases h:m<aV t
  .simp only[ab h]
   rw[ab kc,UA]
   show _=0+_
   grind
  .simp only[ae h]
   rw[ih,gb,Lc]
   simp only[bO,Nat.add_lt_add_iff_right]
   show _=l9 t c+Ih _ c+_
   grind
def Ej(l:gy)(c:Int)(r:Rat):∀m,jO l m r c=if dN l m<l.length then l9 (ix l (dN l m)) c*(r/aV (ix l (dN l m)))else 0:=by
 induction l with
 |nil=>intro m;rfl
 |cons t l ih=>
  intro m
  unfold jO dN
  by_cases h:m<aV t
  .simp only[ab h]
   rw[ab kc,UA]
  .simp only[ae h]
   rw[ih,Lc]
   simp only[bO,Nat.add_lt_add_iff_right]
def aey(l:gy):∀m,mF l m=if dN l m<l.length then some (aV (ix l (dN l m))-jB l m)else none:=by
 induction l with
 |nil=>intro m;rfl
 |cons t l ih=>
  intro m
  unfold mF dN jB
  by_cases h:m<aV t
  .simp only[ab h]
   rw[ab kc,UA]
  .simp only[ae h]
   rw[ih,Lc]
   simp only[bO,Nat.add_lt_add_iff_right]
theorem UC(l:gy):∀m,0<=m->0<=jB l m/\(dN l m<l.length->jB l m<aV (ix l (dN l m))):=by
 induction l with
 |nil=>intro m h;exact⟨h,λh=>by simp[dN]at h⟩
 |cons t l ih=>
  intro m h
  unfold dN jB
  by_cases h2:m<aV t
  .simp only[ab h2];exact⟨h,λ_=>h2⟩
  .simp only[ae h2]
   obtain⟨a,b⟩:=ih (m-aV t) kd
   exact⟨a,λh=>by rw[Lc];exact b (by simp only[bO]at h;omega)⟩
theorem Og(l:gy):∀m,jB l m=m-BH l (dN l m):=by
 induction l with
 |nil=>intro m;show m=m-0;grind
 |cons t l ih=>
  intro m
  unfold dN jB
  by_cases h:m<aV t
  .simp only[ab h];show m=m-0;grind
  .simp only[ae h]
   rw[ih]
   show _=m-(aV t+BH l _)
   grind
structure Oh(D n:Nat)(l:gy):Prop where
 len:l.length<=1000000
 tl:∀t∈l,t.length<=1000000
 st:∀t∈l,Sz (aV t)
 id:∀t∈l,∀p∈t,p.1=-1\/(0<=p.1/\p.1<n)
 sp:∀t∈l,∀p∈t,Sz p.2
 zp:∀t∈l,∀p∈t,Zk D 1 p.2
structure Oi(D:Nat)(l:gy)(m x:Rat):Prop where
 cum:∀k,k<=l.length->Sz (m-BH l k)
 nn:0<=m
 sx:Sz x
 q:dN l m<l.length->Sz (x/aV (ix l (dN l m)))
 z:dN l m<l.length->∀p∈ix l (dN l m),Zk D 1 (p.2*(x/aV (ix l (dN l m))))
def Oi.ne{D:Nat}{l:gy}{m x:Rat}(h:Oi D l m x)(hf:dN l m<l.length):aV (ix l (dN l m))≠0:=by have h1:=UC l m h.nn;have h2:=h1.2 hf;intro e;rw[e]at h2;have:=h1.1;grind
def Ig.tier{h:Tr Bk}{v:B}{l:gy}(hl:Ig h v l){j:Nat}(hj:j<l.length):∃b o c G,v=.sl b o l.length c/\ld h b (o+j*4) 4 true=some (.agg (jQ G (aV (ix l j))))/\HL h 4 G (ix l j).length (λi=>zN (ix (ix l j) i))/\b<0+b+1:=by obtain⟨G,hG,-,hP⟩:=hl;obtain⟨b,o,c,e,hld⟩:=hG.pos jb;exact⟨b,o,c,G j,e,hld j hj,hP j hj,jb⟩
def ab8{σ0 σ:St}(hW0:WF σ0)(hf:Fr σ0 σ){rb bc n:Nat}{o:Option (Nat×Nat)}{c:Cap}{f:Int->Rat}(hrb:σ0.aj<=rb)(hbc:σ0.aj<=bc)(hr:qZ σ.h rb bc n o c f)
  (l:gy) (v:B) (hL:Ig σ0.h v l) (m x:Rat){D k:Nat}(hD:Ap D) (hl:Oh D n l) (hs:Oi D l m x) (hm:Sz m) (hZ:∀c,Zk D k (f c)) (hk:k+dB l<=256^uK):
  aC EN 141 [.c v,.agg [.bool (rn m),.str (rs m),.str (rd m)],.agg [.bool (rn x),.str (rs x),.str (rd x)],.c (.ptr rb 0)] σ λ_ σ'=>qZ σ'.h rb bc n o c (λc=>f c+jO l m x c)/\(∀c,Zk D (k+dB l) (f c+jO l m x c))/\aU [rb,bc] σ σ':=by
 refine aO (ku.o _ _) ku.h ?_
 unfold ku
 dsimp only
 have l0:=hf.wf.lt hr.r
 have l1:=hf.wf.lt hr.c
 have hlen:=hL.choose_spec.1.len
 simp(disch:=try exact jz) only[go_sem,z3,hlen]
 have hF:=Fr.new (Fr.new (Fr.refl hf.wf) ⟨[.bool (rn m),.str (rs m),.str (rd m)],none⟩) ⟨[.bool (rn x),.str (rs x),.str (rd x)],none⟩
 refine(Uy l v m _ hF.wf (hL.fr hW0 (hf.trans hF)) (λi hi=>hl.st _ (fO hi)) hs.cum hl.len).mono ?_
 rintro _ σ2 ⟨rfl,hf2⟩
 have hF2:=hF.trans hf2
 have hp2:σ2.h (σ.aj+1)=some ⟨[.bool (rn x),.str (rs x),.str (rd x)],none⟩:=hf2.get hF.wf (aA _ _ _)
 have hl2:σ.aj+1+1<=σ2.aj:=hf2.le
 simp(disch:=try exact jz) only[go_sem,z3,hlen]
 refine aH (λhlt=>?_) (λhlt=>?_)
 .obtain⟨b,o',c',G,rfl,hld,hP,-⟩:=hL.tier hlt
  have hb0:=hW0.cO hld
  have hld:=hF2.ld hf.wf (hf.ld hW0 hld)
  unfold jQ at hld
  have hb:=hF2.wf.cO hld
  have Kq:=fO hlt
  simp(disch:=try exact jz) only[go_sem,z3,hld,ak hp2,hP.kn]
  refine aC.st (Fr σ2) (by have hW2:=hF2.wf;exact fr) λhF3=>?_
  have oq:=hF2.trans hF3
  have hnp:=Oe l hlt
  refine(ab7 hW0 (hf.trans oq) hrb hbc (hr.fr hf.wf oq) (ix l (dN l m)) G hP x hs.sx (hl.st _ Kq) (hs.ne hlt) (hs.q hlt) hD hZ (λp hp=>⟨hl.id _ Kq p hp,hl.sp _ Kq p hp,hs.z hlt p hp⟩) (ap jb hk) (hl.tl _ Kq)).mono ?_
  rintro _ σ4 ⟨hr4,hZ4,hf4⟩
  have e:shF f (ix l (dN l m)) (x/aV (ix l (dN l m)))=λc=>f c+jO l m x c:=by funext c;rw[Ej,ab hlt];rfl
  rw[e]at hr4 hZ4
  simp(disch:=try exact jz) only[go_sem,z3]
  exact⟨hr4,λc=>(hZ4 c).mono jb,(oq.ex _).trans hf4⟩
 .have e:(λc=>f c+jO l m x c)=f:=by funext c;rw[Ej,ae hlt,cY]
  have e2:∀c,f c+jO l m x c=f c:=λc=>ce e c
  simp(disch:=try exact jz) only[go_sem,z3,e,e2]
  have hr2:=hr.fr hf.wf hF2
  have b0:=hF2.wf.lt hr2.r
  have b1:=hF2.wf.lt hr2.c
  refine⟨hr2.set2 jb jb,λc=>(hZ c).mono jb,Fr.ex (by have hW2:=hF2.wf;exact fr) _⟩
def aor{σ:St}(hW:WF σ)(l:gy)(v:B)(hL:Ig σ.h v l)(m:Rat)(hl:l.length<=1000000)(hst:∀t∈l,Sz (aV t))(hs:∀k,k<=l.length->Sz (m-BH l k)):
  aC EN 182 [.c v,.agg [.bool (rn m),.str (rs m),.str (rd m)]] σ λr σ'=>r=(match mF l m with|some g=>.aX (.agg [.bool (rn g),.str (rs g),.str (rd g)]) (.aX (.c (.bool true)) .tnil)|none=>.aX (.agg [.bool (rn 0),.str (rs 0),.str (rd 0)]) (.aX (.c (.bool false)) .tnil))/\Fr σ σ':=by
 refine aO (lW.o _ _) lW.h ?_
 unfold lW
 dsimp only
 have hlen:=hL.choose_spec.1.len
 simp(disch:=try exact jz) only[go_sem,z3,hlen]
 have hF:=Fr.new (Fr.new (Fr.refl hW) ⟨[.bool (rn m),.str (rs m),.str (rd m)],none⟩) ⟨[.bool (rn 0),.str (rs 0),.str (rd 0)],none⟩
 refine(Uy l v m _ hF.wf (hL.fr hW hF) (λi hi=>hst _ (fO hi)) hs hl).mono ?_
 rintro _ σ2 ⟨rfl,hf2⟩
 have hF2:=hF.trans hf2
 have hp2:σ2.h (σ.aj+1)=some ⟨[.bool (rn 0),.str (rs 0),.str (rd 0)],none⟩:=hf2.get hF.wf (aA _ _ _)
 have hl2:σ.aj+1+1<=σ2.aj:=hf2.le
 have hfl:=N7 l m
 rw[aey]
 simp(disch:=try exact jz) only[go_sem,z3,hlen]
 refine aH (λhlt=>?_) (λhlt=>?_)
 .rw[ae jb]
  simp(disch:=try exact jz) only[go_sem,z3,ak hp2,aJ hp2,hp2]
  exact fr
 .have hlt:dN l m<l.length:=jb
  rw[ab hlt]
  obtain⟨b,o',c',G,rfl,hld,hP,-⟩:=hL.tier hlt
  have hld:=hF2.ld hW hld
  unfold jQ at hld
  have hb:=hF2.wf.cO hld
  have Kq:=hst _ (fO hlt)
  have hlm:Sz (jB l m):=by rw[Og];exact hs _ hfl
  simp(disch:=try exact jz) only[go_sem,z3,hld,yO hld,ak hp2,aJ hp2,hp2]
  exact fr
def Jp(f:Int->Rat)(l:gy)(c:Int):Rat:=f c+Ih l c
def ahX(f:Int->Rat):Jp f []=f:=by funext c;show f c+0=f c;grind
def aez(f:Int->Rat)(l:gy)(t:dO):shF (Jp f l) t 1=Jp f (l++[t]):=by funext c;unfold shF Jp;rw[aex];grind
def aot{σ0 σ:St}(hW0:WF σ0)(hf:Fr σ0 σ){rb bc n:Nat}{o:Option (Nat×Nat)}{c:Cap}{f:Int->Rat}(hrb:σ0.aj<=rb)(hbc:σ0.aj<=bc)(hr:qZ σ.h rb bc n o c f)
  (l:gy) (v:B) (hL:Ig σ0.h v l) (m:Rat){D k:Nat}(hD:Ap D) (hl:Oh D n l) (hs:Oi D l m (jB l m)) (hm:Sz m) (hZ:∀c,Zk D k (f c)) (hk:k+dB l<=256^uK) (hpos:0<l.length):
  aC EN 96 [.c v,.agg [.bool (rn m),.str (rs m),.str (rd m)],.c (.ptr rb 0)] σ λ_ σ'=>qZ σ'.h rb bc n o c (λc=>f c+iD l m c)/\(∀c,Zk D (k+dB l) (f c+iD l m c))/\aU [rb,bc] σ σ':=by
 refine aO (lS.o _ _) lS.h ?_
 unfold lS
 dsimp only
 have l0:=hf.wf.lt hr.r
 have l1:=hf.wf.lt hr.c
 have hlen:=hL.choose_spec.1.len
 simp(disch:=try exact jz) only[go_sem,z3,hlen]
 have hF:=Fr.new (Fr.refl hf.wf) ⟨[.bool (rn m),.str (rs m),.str (rd m)],none⟩
 refine(Uy l v m _ hF.wf (hL.fr hW0 (hf.trans hF)) (λi hi=>hl.st _ (fO hi)) hs.cum hl.len).mono ?_
 rintro _ σ2 ⟨rfl,hf2⟩
 have hF2:=hF.trans hf2
 have hl2:σ.aj+1<=σ2.aj:=hf2.le
 have hfl:=N7 l m
 have hll:=hl.len
 obtain⟨G,hG,hcap,hP⟩:=hL
 obtain⟨b,o',c0,rfl,vk⟩:=hG.pos hpos
 obtain⟨v',hv',-,⟨h0,-⟩|⟨b2,o2,c2,c',h2,rfl⟩⟩:=aqC hcap (.inr ⟨b,o',c0,rfl,hpos⟩) hfl 4
 .omega
 cases h2
 simp(disch:=try exact jz) only[go_sem,z3,hlen,hv']
 refine bI.st (Fr σ2) (by have hW2:=hF2.wf;exact fr) λhF3=>?_
 have oq:=hF2.trans hF3
 refine aF (λq tm σ'=>∃j,q=dN l m-j/\j<=dN l m/\Tr.ah tm 0=.c (.sl b o' l.length c0)/\Tr.ah tm 2=.c (.ptr rb 0)/\Tr.ah tm 6=.c (.int .i64 (.ofNat (dN l m)))/\Tr.ah tm 7=.c (.ptr σ2.aj 0)
  /\Tr.ah tm 20=.c (.sl b o' (dN l m) c')/\Tr.ah tm 21=.c (.int .i64 (.ofNat (dN l m)))/\Tr.ah tm 22=.c (.int .i64 (.ofNat j))
  /\σ'.h σ2.aj=some ⟨[.bool (rn (jB l m)),.str (rs (jB l m)),.str (rd (jB l m))],none⟩/\qZ σ'.h rb bc n o c (Jp f (l.take j))/\(∀c,Zk D (k+dB (l.take j)) (Jp f (l.take j) c))/\aU [rb,bc] σ σ'/\σ2.aj+1<=σ'.aj) (dN l m) ?_ ?_
 .refine⟨0,jb,jb,?_⟩
  simp(disch:=try exact jz) only[go_sem,z3,am,cK,ahX]
  exact⟨hr.fr hf.wf oq,λc=>(hZ c).mono jb,oq.ex _,jp⟩
 .rintro q tm σ' ⟨j,rfl,hj,t0,t2,t6,t7,t20,t21,t22,hq,hr',hZ',hf',hnx⟩
  simp(disch:=try exact jz) only[go_sem,z3,t0,t2,t6,t7,t20,t21,t22]
  refine aH (λhlt=>?_) (λhlt=>?_)
  .have hjl:j<l.length:=jb
   have Kq:=fO hjl
   have Em:=hP j hjl
   have htl:=hl.tl _ Kq
   have hpl:=Em.len
   have aeA:=vk j hjl
   have hb0:=hW0.cO aeA
   have hld:=hf'.ld hf.wf (by simp;omega) (hf.ld hW0 aeA)
   unfold jQ at hld
   have hb:=hf'.wf.cO hld
   simp(disch:=try exact jz) only[go_sem,z3,t0,t2,t6,t7,t20,t21,t22,hld,Em.kn,hpl]
   refine bI.st (Fr σ') (by have hW2:=hf'.wf;exact fr) λig=>?_
   refine aF (λq tm σ3=>∃i,q=(ix l j).length-i/\i<=(ix l j).length/\Tr.ah tm 0=.c (.sl b o' l.length c0)/\Tr.ah tm 2=.c (.ptr rb 0)/\Tr.ah tm 6=.c (.int .i64 (.ofNat (dN l m)))/\Tr.ah tm 7=.c (.ptr σ2.aj 0)
    /\Tr.ah tm 20=.c (.sl b o' (dN l m) c')/\Tr.ah tm 21=.c (.int .i64 (.ofNat (dN l m)))/\Tr.ah tm 22=.c (.int .i64 (.ofNat j))/\Tr.ah tm 27=.c (G j)/\Tr.ah tm 28=.c (.int .i64 (.ofNat (ix l j).length))/\Tr.ah tm 29=.c (.int .i64 (.ofNat i))
    /\qZ σ3.h rb bc n o c (shF (Jp f (l.take j)) ((ix l j).take i) 1)/\(∀c,Zk D (k+dB (l.take j)+i) (shF (Jp f (l.take j)) ((ix l j).take i) 1 c))/\aU [rb,bc] σ' σ3) (ix l j).length ?_ ?_
   .refine⟨0,jb,jb,?_⟩
    simp(disch:=try exact jz) only[go_sem,z3,t0,t2,t6,t7,t20,t21,t22,am,cK,ab6]
    exact⟨hr'.fr hf'.wf ig,hZ',ig.ex _⟩
   .rintro q V6 σ3 ⟨i,rfl,hi,t0,t2,t6,t7,t20,t21,t22,t27,t28,t29,hr3,hZ3,hf3⟩
    simp(disch:=try exact jz) only[go_sem,z3,t0,t2,t6,t7,t20,t21,t22,t27,t28,t29]
    refine aH (λhli=>?_) (λhli=>?_)
    .obtain⟨b3,o3,c3,e3,uz⟩:=Em.pos jb
     rw[e3]at t27
     have uz:=uz i hli
     have hb3:=hW0.cO uz
     have hlx:=(hf'.trans hf3).ld hf.wf (by simp;omega) (hf.ld hW0 uz)
     unfold zN at hlx
     have hb4:=hf3.wf.cO hlx
     have hsn:=XA (Jp f (l.take j)) ((ix l j).take i) (ix (ix l j) i) 1
     rw[<-take_snoc hli,Rat.mul_one]at hsn
     have hpm:=fO hli
     have hid:=hl.id _ Kq _ hpm
     have hsp:=hl.sp _ Kq _ hpm
     have hzp:=hl.zp _ Kq _ hpm
     have hnp:=Oe l hjl
     generalize ix (ix l j) i=p at*
     simp(disch:=try exact jz) only[go_sem,z3,t0,t2,t6,t7,t20,t21,t22,t27,t28,t29,hlx]
     refine aC.st (Fr σ3) (by have hW2:=hf3.wf;exact fr) λlC=>?_
     refine(aoq lC.wf (hr3.fr hf3.wf lC) _ hsp _ ((hZ3 _).sz hD (ap jb hk)) hid).mono ?_
     rintro _ σ5 ⟨hr5,hf5⟩
     rw[hsn]at hr5
     simp(disch:=try exact jz) only[go_sem,z3,t0,t2,t6,t7,t20,t21,t22,t27,t28,t29]
     refine⟨(ix l j).length-(i+1),jb,i+1,rfl,jb,e3.symm▸rfl,rfl,hr5,λc=>?_,hf3.trans ((lC.ex _).trans hf5)⟩
     rw[<-hsn]
     refine(hZ3 c).add (l:=1) ?_
     split
     .exact hzp
     .exact Zk.zero
    .have:i=(ix l j).length:=jb
     subst this
     rw[cA,aez,<-take_snoc hjl]at hr3 hZ3
     have hnp:=Ob (l.take j) (ix l j)
     rw[<-take_snoc hjl]at hnp
     have hfx:=hf3.le
     have hqx:=hf3.get hf'.wf (show¬σ2.aj∈[rb,bc] by simp;omega) hq
     simp(disch:=try exact jz) only[go_sem,z3,t0,t2,t6,t7,t20,t21,t22,t27,t28,t29]
     exact⟨dN l m-(j+1),jb,j+1,rfl,jb,rfl,hqx,hr3,λc=>(hZ3 c).mono jb,hf'.trans hf3,jb⟩
  .have:j=dN l m:=jb
   subst this
   simp(disch:=try exact jz) only[go_sem,z3,t0,t2,t6,t7,t20,t21,t22]
   refine aH (λhlf=>?_) (λhlf=>?_)
   .have Kq:=fO hlf
    have aeA:=vk _ hlf
    have hb0:=hW0.cO aeA
    have hld:=hf'.ld hf.wf (by simp;omega) (hf.ld hW0 aeA)
    unfold jQ at hld
    have hb:=hf'.wf.cO hld
    have hnp:=Oe l hlf
    simp(disch:=try exact jz) only[go_sem,z3,t0,t2,t6,t7,t20,t21,t22,hld,ak hq,(hP _ hlf).kn]
    refine(ab7 hW0 (hf'.to hf (by simp;omega)) hrb hbc hr' (ix l (dN l m)) (G (dN l m)) (hP _ hlf) (jB l m) hs.sx (hl.st _ Kq) (hs.ne hlf) (hs.q hlf) hD hZ' (λp hp=>⟨hl.id _ Kq p hp,hl.sp _ Kq p hp,hs.z hlf p hp⟩) (ap jb hk) (hl.tl _ Kq)).mono ?_
    rintro _ σ4 ⟨hr4,hZ4,hf5⟩
    have e:shF (Jp f (l.take (dN l m))) (ix l (dN l m)) (jB l m/aV (ix l (dN l m)))=λc=>f c+iD l m c:=by funext c;rw[Jo,ab hlf];unfold shF Jp;grind
    rw[e]at hr4 hZ4
    simp(disch:=try exact jz) only[go_sem,z3]
    exact⟨hr4,λc=>(hZ4 c).mono jb,hf'.trans hf5⟩
   .have e:Jp f (l.take (dN l m))=λc=>f c+iD l m c:=by funext c;rw[Jo,ae hlf];unfold Jp;grind
    have hnp:=Oc l (dN l m)
    rw[e]at hr' hZ'
    simp(disch:=try exact jz) only[go_sem,z3]
    exact⟨hr',λc=>(hZ' c).mono jb,hf'⟩
theorem mM{α:Type}(l:List α)(a:α)(f:α->Rat):aI (l++[a]) f=aI l f+f a:=by
 induction l with
 |nil=>show f a+0=0+f a;grind
 |cons b l ih=>show f b+aI (l++[a]) f=f b+aI l f+f a;rw[ih];grind
def UD{α:Type}{D k:Nat}{f:α->Rat}:∀{l:List α},(∀a∈l,Zk D k (f a))->Zk D (k*l.length) (aI l f)
 |[],_=>Zk.zero
 |a::l,h=>by have:=(h a kc).add (UD (l:=l) λb hb=>h b (by simp[hb]));rw[bO,Nat.mul_succ,fm];exact this
def ahY{α:Type}{l:List α}{a:α}{j:Nat}(h:a∈l.take j):a∈l:=eo h
def PW(ms:List Nat)(i:Nat):B:=.int .i64 (.ofNat (ix ms i))
def Ii{σ:St}(hW:WF σ){n:Nat}(ms:List Nat)(mv lv rv:B)(f:Nat->Rat)(hm:HC σ.h mv ms.length (PW ms))(hv:HL σ.h 3 rv n λi=>gJ (f i))(hms:∀i∈ms,i<n)(hl:ms.length<=1000000)
  {D k:Nat}(hD:Ap D) (hZ:∀i,i<n->Zk D k (f i)) (hk:k*(ms.length+1)<=256^uK):
  aC EN 97 [.agg [mv,lv],.c rv] σ λr σ'=>r=.agg [.bool (rn (aI ms f)),.str (rs (aI ms f)),.str (rd (aI ms f))]/\Fr σ σ':=by
 refine aO (lT.o _ _) lT.h ?_
 unfold lT
 dsimp only
 have hlen:=hm.len
 simp(disch:=try exact jz) only[go_sem,z3,hlen,hm.kn]
 refine bI.st (Fr σ) (fr) λhF=>?_
 refine aF (λq tm σ'=>∃j,q=ms.length-j/\j<=ms.length/\Tr.ah tm 1=.c rv/\Tr.ah tm 4=.c (.ptr (σ.aj+1) 0)/\Tr.ah tm 5=.c (.ptr (σ.aj+1+1) 0)/\Tr.ah tm 10=.c mv/\Tr.ah tm 11=.c (.int .i64 (.ofNat ms.length))/\Tr.ah tm 12=.c (.int .i64 (.ofNat j))
  /\σ'.h (σ.aj+1)=some ⟨[.bool (rn 0),.str (rs 0),.str (rd 0)],none⟩/\σ'.h (σ.aj+1+1)=some ⟨[.bool (rn (aI (ms.take j) f)),.str (rs (aI (ms.take j) f)),.str (rd (aI (ms.take j) f))],none⟩/\Fr σ σ'/\σ.aj+3<=σ'.aj) ms.length ?_ ?_
 .refine⟨0,jb,jb,?_⟩
  simp(disch:=try exact jz) only[go_sem,z3,am,cK,show aI ([]:List Nat) f=0 from rfl]
  exact⟨hF,jb⟩
 .rintro q tm σ' ⟨j,rfl,hj,t1,t4,t5,t10,t11,t12,hq1,hq2,hf',hnx⟩
  simp(disch:=try exact jz) only[go_sem,z3,t1,t4,t5,t10,t11,t12]
  refine aH (λhlt=>?_) (λhlt=>?_)
  .obtain⟨b,o,c,rfl,hld⟩:=hm.pos jb
   have hld:=hf'.ld hW (hld j hlt)
   have hn:=hms _ (fO hlt)
   obtain⟨b2,o2,c2,rfl,Ez⟩:=hv.pos jb
   have Ez:=hf'.ld hW (Ez _ hn)
   have hb2:=hf'.wf.cO Ez
   unfold PW at hld
   unfold gJ at Ez
   have hsn:=mM (ms.take j) (ix ms j) f
   rw[<-take_snoc hlt]at hsn
   have hz1:Sz (f (ix ms j)):=(hZ _ hn).sz hD (ap (ga _ jb) hk)
   have hz2:Sz (aI (ms.take j) f):=(UD λa ha=>hZ a (hms a (ahY ha))).sz hD (ap (ck _ (by rw[dj];omega)) hk)
   simp(disch:=try exact jz) only[go_sem,z3,t1,t4,t5,t10,t11,t12,hld,Ez,ak hq2,hq1,hq2,aJ hq2,<-hsn]
   refine⟨ms.length-(j+1),jb,j+1,rfl,jb,rfl,rfl,?_,jb⟩
   exact fr
  .have:j=ms.length:=jb
   subst this
   rw[cA]at hq2
   simp(disch:=try exact jz) only[go_sem,z3,t1,t4,t5,t10,t11,t12,ak hq2,hq1,aJ hq1]
   exact fr
structure Jq(h:Tr Bk)(rv pv:B)(e:dZ):Prop where
 rk:Ig h rv e.rk
 ps:∃Gm Gl:Nat->B,HL h 2 pv e.ps.length (λi=>[Gm i,Gl i])/\∀i,i<e.ps.length->HC h (Gm i) (ix e.ps i).1.length (PW (ix e.ps i).1)/\Ig h (Gl i) (ix e.ps i).2
theorem Jq.fr{σ σ':St}(hW:WF σ)(hf:Fr σ σ'){rv pv:B}{e:dZ}(h:Jq σ.h rv pv e):Jq σ'.h rv pv e:=by obtain⟨h1,Gm,Gl,h2,h3⟩:=h;exact⟨h1.fr hW hf,Gm,Gl,h2.fr hW hf,λi hi=>⟨(h3 i hi).1.fr hW hf,(h3 i hi).2.fr hW hf⟩⟩
def jA(n:Nat)(rv pv:B)(t:Rat):List B:=[.int .i64 (.ofNat n),rv,pv,.bool (rn t),.str (rs t),.str (rd t)]
def Ig.kn{h:Tr Bk}{v:B}{l:gy}(hl:Ig h v l):v.kn=true:=hl.choose_spec.1.kn
def Jq.VD{h:Tr Bk}{rv pv:B}{e:dZ}(hl:Jq h rv pv e):pv.kn=true:=by obtain⟨_,Gm,Gl,h2,h3⟩:=hl;exact h2.kn
structure auN(σ σ':St)(r:V)(n:Nat)(f:Nat->Rat)(b:Nat):Prop where
 r:r=.c (.sl b 0 n (.ex n))
 c:σ'.h b=some ⟨bU n f,none⟩
 b:σ.aj<=b
def Ld{σ:St}(hW:WF σ){n:Nat}{rv pv:B}(t:Rat)(e:dZ)(hL:Jq σ.h rv pv e)(m:Rat){D:Nat}(hD:Ap D)(hn:n<=1000000)(hl:Oh D n e.rk)(hs:Oi D e.rk m (jB e.rk m))(hm:Sz m)(hk:dB e.rk<=256^uK)(hpos:0<e.rk.length):
  aC EN 57 [.agg (jA n rv pv t),.agg [.bool (rn m),.str (rs m),.str (rd m)]] σ λr σ'=>(∃b,auN σ σ' r n (λi=>yZ e m i) b)/\(∀i:Nat,Zk D (dB e.rk) (yZ e m i))/\Fr σ σ':=by
 refine aO (jT.o _ _) jT.h ?_
 unfold jT jA
 dsimp only
 simp(disch:=try exact jz) only[go_sem,z3,hL.rk.kn]
 refine aC.st (Fr σ) (fr) λhF=>?_
 refine(aot (f:=λ_=>0) (k:=0) hW hF jb jb ⟨aA _ _ _,(au _ _ _ _ jb).trans (aA _ _ _),rfl,rfl,jb⟩ e.rk rv hL.rk m hD hl hs hm (λ_=>Zk.zero) jb hpos).mono ?_
 rintro _ σ2 ⟨hr2,hZ2,hf2⟩
 have hz:(λc=>(0:Rat)+iD e.rk m c)=iD e.rk m:=by funext c;grind
 have hz2:∀c,(0:Rat)+iD e.rk m c=iD e.rk m c:=λc=>by grind
 rw[hz]at hr2
 simp only[hz2,cT]at hZ2
 have h5:=hr2.r
 simp(disch:=try exact jz) only[go_sem,z3,ak h5]
 exact⟨⟨_,rfl,hr2.c,jb⟩,λi=>hZ2 i,hf2.to hF (by simp;omega)⟩
def acd{σ:St}(hW:WF σ){n:Nat}{rv pv:B}(t:Rat)(e:dZ)(hL:Jq σ.h rv pv e)(m:Rat){D:Nat}(hD:Ap D)(hn:n<=1000000)(hl:Oh D n e.rk)(hs:Oi D e.rk m 1)(hm:Sz m)(hk:dB e.rk<=256^uK):
  aC EN 140 [.agg (jA n rv pv t),.agg [.bool (rn m),.str (rs m),.str (rd m)]] σ λr σ'=>(∃b,auN σ σ' r n (λi=>rts e m i) b)/\(∀i:Nat,Zk D (dB e.rk) (rts e m i))/\Fr σ σ':=by
 refine aO (jZ.o _ _) jZ.h ?_
 unfold jZ jA
 dsimp only
 simp(disch:=try exact jz) only[go_sem,z3,hL.rk.kn]
 refine aC.st (Fr σ) (fr) λhF=>?_
 refine(ab8 (f:=λ_=>0) (k:=0) hW hF jb jb ⟨aA _ _ _,(au _ _ _ _ jb).trans (aA _ _ _),rfl,rfl,jb⟩ e.rk rv hL.rk m 1 hD hl hs hm (λ_=>Zk.zero) jb).mono ?_
 rintro _ σ2 ⟨hr2,hZ2,hf2⟩
 have hz:(λc=>(0:Rat)+jO e.rk m 1 c)=jO e.rk m 1:=by funext c;grind
 have hz2:∀c,(0:Rat)+jO e.rk m 1 c=jO e.rk m 1 c:=λc=>by grind
 rw[hz]at hr2
 simp only[hz2,cT]at hZ2
 have h5:=hr2.r
 simp(disch:=try exact jz) only[go_sem,z3,ak h5]
 exact⟨⟨_,rfl,hr2.c,jb⟩,λi=>hZ2 i,hf2.to hF (by simp;omega)⟩
def ace{σ:St}(hW:WF σ){n b:Nat}{c:Cap}{f:Nat->Rat}(hb:σ.h b=some ⟨bU n f,none⟩)(hn:n<=1000000):
  aC EN 55 [.c (.sl b 0 n c)] σ λr σ'=>(∃b' c' o',r=.c (.sl b' 0 n c')/\σ'.h b'=some ⟨bU n f,o'⟩/\plo o'=true/\YE o'=true/\σ.aj<=b'/\b'<σ'.aj)/\Fr σ σ':=by
 refine aO (iH.o _ _) iH.h ?_
 unfold iH
 dsimp only
 have hbl:=hW.lt hb
 by_cases h0:n=0
 .subst h0
  simp(disch:=try exact jz) only[go_sem,z3,hb]
  refine⟨⟨σ.aj,_,none,rfl,aA _ _ _,rfl,rfl,jp,cj _⟩,?_⟩
  exact fr
 .simp(disch:=try exact jz) only[go_sem,z3,hb]
  refine⟨⟨σ.aj+1,_,_,rfl,aA _ _ _,rfl,rfl,jb,cj _⟩,?_⟩
  exact fr
def zF(l:List Nat)(f:Nat->Rat):Int->Rat:=λi=>if 0<=i then(if l.contains i.toNat then 0 else f i.toNat)else 0
def Oj(l:List Nat)(f:Nat->Rat):zF l f (-1)=0:=ae jb
def UE(l:List Nat)(f:Nat->Rat)(i:Nat):zF l f i=if l.contains i then 0 else f i:=by unfold zF;rw[ab jb,gw]
def amy(l:List Nat)(f:Nat->Rat)(k n:Nat):bU n (aN (λi=>zF l f i) k 0)=bU n λi=>zF (l++[k]) f i:=by
 refine dw λi _=>?_;show(if i=k then 0 else zF l f i)=_;rw[UE,UE,List.contains_append];by_cases h:i=k
 .subst h;simp
 .rw[ae h];simp[h]
def flat(ps:List (List Nat×gy)):List Nat:=ps.flatMap λp=>p.1
def aeB(ps:List (List Nat×gy))(p:List Nat×gy):flat (ps++[p])=flat ps++p.1:=by unfold flat;simp
def J3(e:dZ)(c:Nat):(flat e.ps).contains c=pooled e c:=by
 unfold flat pooled;induction e.ps with
 |nil=>rfl
 |cons p l ih=>rw[ii,List.contains_append,List.any_cons,ih]
def ahZ{σ:St}(hW:WF σ){n b:Nat}{rv pv:B}(t:Rat)(e:dZ)(hL:Jq σ.h rv pv e){f:Nat->Rat}(hb:σ.h b=some ⟨bU n f,none⟩){c:Cap}(hn:n<=1000000)(hp:e.ps.length<=1000000)(hm:∀p∈e.ps,p.1.length<=1000000/\∀i∈p.1,i<n):
  aC EN 95 [.agg (jA n rv pv t),.c (.sl b 0 n c)] σ λr σ'=>(∃rb bc o c',r=.c (.ptr rb 0)/\qZ σ'.h rb bc n o c' (zF (flat e.ps) f)/\σ.aj<=rb/\σ.aj<=bc)/\Fr σ σ':=by
 refine aO (kM.o _ _) kM.h ?_
 unfold kM jA
 dsimp only
 simp(disch:=try exact jz) only[go_sem,z3]
 refine aC.st (Fr σ) (fr) λhF=>?_
 refine(ace hF.wf (hF.get hW hb) hn).mono ?_
 rintro _ σ2 ⟨⟨bc,c',o,rfl,h2,hpl,hrd,hbc,hbc2⟩,hf2⟩
 have hF2:=hF.trans hf2
 obtain⟨-,Gm,Gl,hG,hP⟩:=hL
 have hlen:=hG.len
 have hbox:σ2.h σ.aj=some ⟨[.int .i64 (.ofNat n),rv,pv,.bool (rn t),.str (rs t),.str (rd t)],none⟩:=hf2.get hF.wf (aA _ _ _)
 have hl2:σ.aj+1<=σ2.aj:=hf2.le
 have hbc:σ.aj+1<=bc:=hbc
 simp(disch:=try exact jz) only[go_sem,z3,ak hbox,hlen,hG.kn]
 refine aF (λq tm σ'=>∃j,q=e.ps.length-j/\j<=e.ps.length/\Tr.ah tm 5=.c (.ptr σ2.aj 0)/\Tr.ah tm 15=.c pv/\Tr.ah tm 16=.c (.int .i64 (.ofNat e.ps.length))/\Tr.ah tm 17=.c (.int .i64 (.ofNat j))
  /\qZ σ'.h σ2.aj bc n o c' (zF (flat (e.ps.take j)) f)/\Fr σ σ'/\σ2.aj+1<=σ'.aj) e.ps.length ?_ ?_
 .refine⟨0,jb,jb,?_⟩
  simp(disch:=try exact jz) only[go_sem,z3,am,cK]
  refine⟨⟨?_,?_,hpl,hrd,jb⟩,?_,jp⟩
  .rw[aA,Oj]
  .rw[au _ _ _ _ jb,h2]
   congr 2
  .exact fr
 .rintro q tm σ' ⟨j,rfl,hj,t5,t15,t16,t17,hr,hf',hnx⟩
  simp(disch:=try exact jz) only[go_sem,z3,t5,t15,t16,t17]
  refine aH (λhlt=>?_) (λhlt=>?_)
  .obtain⟨b2,o2,c2,rfl,hld⟩:=hG.pos jb
   have hld:=hf'.ld hW (hld j hlt)
   have hb2:=hf'.wf.cO hld
   have Em:=hP j hlt
   have hpl2:=Em.1.len
   have hmj:=hm _ (fO hlt)
   have hfs:=aeB (e.ps.take j) (ix e.ps j)
   rw[<-take_snoc hlt]at hfs
   generalize ix e.ps j=p at*
   simp(disch:=try exact jz) only[go_sem,z3,t5,t15,t16,t17,hld,Em.1.kn,Em.2.kn,hpl2]
   refine bI.st (Fr σ') (by have hW2:=hf'.wf;exact fr) λig=>?_
   refine aF (λq tm σ3=>∃i,q=p.1.length-i/\i<=p.1.length/\Tr.ah tm 5=.c (.ptr σ2.aj 0)/\Tr.ah tm 15=.c (.sl b2 o2 e.ps.length c2)/\Tr.ah tm 16=.c (.int .i64 (.ofNat e.ps.length))/\Tr.ah tm 17=.c (.int .i64 (.ofNat j))
    /\Tr.ah tm 22=.c (Gm j)/\Tr.ah tm 23=.c (.int .i64 (.ofNat p.1.length))/\Tr.ah tm 24=.c (.int .i64 (.ofNat i))
    /\qZ σ3.h σ2.aj bc n o c' (zF (flat (e.ps.take j)++p.1.take i) f)/\Fr σ σ3/\σ2.aj+1<=σ3.aj) p.1.length ?_ ?_
   .refine⟨0,jb,jb,?_⟩
    simp(disch:=try exact jz) only[go_sem,z3,t5,t15,t16,t17,am,cK,dx]
    exact⟨hr.fr hf'.wf ig,hf'.trans ig,jb⟩
   .rintro q V6 σ3 ⟨i,rfl,hi,t5,t15,t16,t17,t22,t23,t24,hr3,hf3,hn3⟩
    simp(disch:=try exact jz) only[go_sem,z3,t5,t15,t16,t17,t22,t23,t24]
    refine aH (λhli=>?_) (λhli=>?_)
    .obtain⟨b3,o3,c3,e3,uz⟩:=Em.1.pos jb
     rw[e3]at t22
     have uz:=hf3.ld hW (uz i hli)
     unfold PW at uz
     have hin:=hmj.2 _ (fO hli)
     have hzs:=amy (flat (e.ps.take j)++p.1.take i) f (ix p.1 i) n
     rw[ie,<-take_snoc hli]at hzs
     have auO:=hr3.r
     have auP:=hr3.c
     have hb3:=hf3.wf.lt auP
     simp(disch:=try exact jz) only[go_sem,z3,t5,t15,t16,t17,t22,t23,t24,uz,ak auO,aJ auP,hpl,hzs]
     refine⟨p.1.length-(i+1),jb,i+1,rfl,jb,e3.symm▸rfl,rfl,⟨?_,aA _ _ _,hpl,hrd,jb⟩,?_,jb⟩
     .rw[au _ _ _ _ jb,auO,Oj,Oj]
     .exact fr
    .have:i=p.1.length:=jb
     subst this
     rw[cA,<-hfs]at hr3
     simp(disch:=try exact jz) only[go_sem,z3,t5,t15,t16,t17,t22,t23,t24]
     exact⟨e.ps.length-(j+1),jb,j+1,rfl,jb,rfl,hr3,hf3,jb⟩
  .have:j=e.ps.length:=jb
   subst this
   rw[cA]at hr
   simp(disch:=try exact jz) only[go_sem,z3,t5,t15,t16,t17]
   exact⟨⟨_,_,_,_,rfl,hr,jb,jb⟩,hf'⟩
end Go.Proofs.Xe
