import Derived.Test.YthkggcakedkboaaGreatDoorYc20
set_option linter.all false
set_option maxRecDepth 100000
namespace Go.Proofs.Xe
open Go.RowKit Go.Proofs.Ins
structure qM(h:Tr Bk)(rb bc n:Nat)(o:Option (Nat×Nat))(c:Cap)(f:Int->Rat):Prop where
 r:h rb=some ⟨[.sl bc 0 n c,.bool (rn (f (-1))),.str (rs (f (-1))),.str (rd (f (-1)))],none⟩
 c:h bc=some ⟨bZ n λi=>f i,o⟩
 pl:plo o=true
 rd:Yk o=true
 ne:rb≠bc
def Uf(f:Int->Rat)(k:Int)(q:Rat):Int->Rat:=λc=>f c+if c=k then q else 0
def qM.set{h:Tr Bk}{rb bc n b:Nat}{o:Option (Nat×Nat)}{c:Cap}{f:Int->Rat}(hr:qM h rb bc n o c f)(h1:rb≠b)(h2:bc≠b)(k:Bk):qM (hset h b k) rb bc n o c f:=
 ⟨by rw[au _ _ _ _ h1];exact hr.r,by rw[au _ _ _ _ h2];exact hr.c,hr.pl,hr.rd,hr.ne⟩
def qM.set2{h:Tr Bk}{rb bc n b:Nat}{o:Option (Nat×Nat)}{c:Cap}{f:Int->Rat}(hr:qM h rb bc n o c f)(h1:rb≠b)(h2:bc≠b){k k':Bk}:qM (hset (hset h b k) b k') rb bc n o c f:=(hr.set h1 h2 k).set h1 h2 k'
def aus{σ:St}(hW:WF σ){rb bc n:Nat}{o:Option (Nat×Nat)}{c:Cap}{f:Int->Rat}(hr:qM σ.h rb bc n o c f)(q:Rat)(hq:Sz q)(hz:Sz (f (-1))):
  aC EN 138 [.c (.ptr rb 0),.c (.int .i64 (.negSucc 0)),.agg [.bool (rn q),.str (rs q),.str (rd q)]] σ λ_ σ'=>qM σ'.h rb bc n o c (Uf f (-1) q)/\aT [rb,bc] σ σ':=by
 refine aQ (fE.o _ _) fE.h ?_
 unfold fE
 dsimp only
 obtain⟨h0,h1,hpl,hrd,hne⟩:=hr
 have l0:=hW.lt h0
 have l1:=hW.lt h1
 simp(disch:=try exact jz) only[go_sem,z3,ak h0,h0]
 refine⟨⟨?_,?_,hpl,hrd,hne⟩,?_⟩
 .rw[aA];simp[Uf]
 .rw[au _ _ _ _ hne.symm,au _ _ _ _ jb,h1,dO]
  intro i _
  unfold Uf
  rw[ae jb];grind
 .repeat(first|assumption|exact aT.refl (by assumption)|exact aT.up (by assumption) kf|exact aT.up (aT.refl (by assumption)) kf|refine aT.set1 ?_ kg kf|refine aT.kC ?_ kg|refine aT.ni ?_ kg|refine aT.nU ?_ kf)
def aut{σ:St}(hW:WF σ){rb bc n:Nat}{o:Option (Nat×Nat)}{c:Cap}{f:Int->Rat}(hr:qM σ.h rb bc n o c f)(q:Rat)(hq:Sz q)(k:Nat)(hz:Sz (f k))(hk:k<n):
  aC EN 138 [.c (.ptr rb 0),.c (.int .i64 (.ofNat k)),.agg [.bool (rn q),.str (rs q),.str (rd q)]] σ λ_ σ'=>qM σ'.h rb bc n o c (Uf f k q)/\aT [rb,bc] σ σ':=by
 refine aQ (fE.o _ _) fE.h ?_
 unfold fE
 dsimp only
 obtain⟨h0,h1,hpl,hrd,hne⟩:=hr
 have l0:=hW.lt h0
 have l1:=hW.lt h1
 simp(disch:=try exact jz) only[go_sem,z3,ak h0,ak h1,h0,h1,hrd,hpl]
 refine⟨⟨?_,?_,hpl,hrd,hne⟩,?_⟩
 .rw[au _ _ _ _ hne,au _ _ _ _ jb,h0]
  unfold Uf
  rw[ae jb,dE]
 .rw[aA]
  congr 2
  refine dO λi _=>?_
  unfold Uf aK
  by_cases e:i=k
  .rw[ab e,ab jb,e]
  .rw[ae e,ae jb,dE]
 .repeat(first|assumption|exact aT.refl (by assumption)|exact aT.up (by assumption) kf|exact aT.up (aT.refl (by assumption)) kf|refine aT.set1 ?_ kg kf|refine aT.kC ?_ kg|refine aT.ni ?_ kg|refine aT.nU ?_ kf)
def aog{σ:St}(hW:WF σ){rb bc n:Nat}{o:Option (Nat×Nat)}{c:Cap}{f:Int->Rat}(hr:qM σ.h rb bc n o c f)(q:Rat)(hq:Sz q)(k:Int)(hz:Sz (f k))(hk:k=-1\/(0<=k/\k<n)):
  aC EN 138 [.c (.ptr rb 0),.c (.int .i64 k),.agg [.bool (rn q),.str (rs q),.str (rd q)]] σ λ_ σ'=>qM σ'.h rb bc n o c (Uf f k q)/\aT [rb,bc] σ σ':=by
 rcases hk with rfl|⟨h1,h2⟩
 .exact aus hW hr q hq hz
 .obtain⟨j,rfl⟩:=cj h1
  exact aut hW hr q hq j hz jb
theorem qM.fr{σ σ':St}{rb bc n:Nat}{o:Option (Nat×Nat)}{c:Cap}{f:Int->Rat}(hW:WF σ)(hf:Fr σ σ')(hr:qM σ.h rb bc n o c f):qM σ'.h rb bc n o c f:=
 ⟨hf.get hW hr.r,hf.get hW hr.c,hr.pl,hr.rd,hr.ne⟩
def u1:1<=256^uK:=dc jj
def ad8(t:dP)(p:Int×Rat)(c:Int):lW (t++[p]) c=lW t c+if c=p.1 then p.2 else 0:=by
 induction t with
 |nil=>
  show(if p.1=c then p.2 else 0)+0=0+if c=p.1 then p.2 else 0
  by_cases h:p.1=c
  .rw[ab h,ab h.symm];grind
  .rw[ae h,ae (Ne.symm h)]
 |cons r t ih=>
  show(if r.1=c then r.2 else 0)+lW (t++[p]) c=(if r.1=c then r.2 else 0)+lW t c+_
  rw[ih];grind
def ZL(f:Int->Rat)(t:dP)(u:Rat)(c:Int):Rat:=f c+lW t c*u
def abP(f:Int->Rat)(u:Rat):ZL f [] u=f:=by funext c;show f c+0*u=f c;grind
def W9(f:Int->Rat)(t:dP)(p:Int×Rat)(u:Rat):Uf (ZL f t u) p.1 (p.2*u)=ZL f (t++[p]) u:=by funext c;unfold Uf ZL;rw[ad8];split<;>grind
theorem take_snoc{α:Type}[Inhabited α]{t:List α}{j:Nat}(h:j<t.length):t.take (j+1)=t.take j++[ix t j]:=by rw[bH h]
theorem fO{α:Type}[Inhabited α]{t:List α}{j:Nat}(h:j<t.length):ix t j∈t:=by rw[eY h];exact List.getElem_mem h
def abQ{σ0 σ:St}(hW0:WF σ0)(hf:Fr σ0 σ){rb bc n:Nat}{o:Option (Nat×Nat)}{c:Cap}{f:Int->Rat}(hrb:σ0.aj<=rb)(hbc:σ0.aj<=bc)(hr:qM σ.h rb bc n o c f)
  (t:dP) (G:B) (hG:HL σ0.h 4 G t.length λj=>y8 (ix t j)) (x:Rat) (hx:Sz x) (hs:Sz (aV t)) (h0:aV t≠0) (hqz:Sz (x/aV t)){D k:Nat}(hD:Bj D) (hZ:∀c,Zk D k (f c))
  (hp:∀p∈t,(p.1=-1\/(0<=p.1/\p.1<n))/\Sz p.2/\Zk D 1 (p.2*(x/aV t))) (hk:k+t.length<=256^uK) (hn:t.length<=1000000):
  aC EN 139 [.c (.ptr rb 0),.agg (jI G (aV t)),.agg [.bool (rn x),.str (rs x),.str (rd x)]] σ λ_ σ'=>qM σ'.h rb bc n o c (ZL f t (x/aV t))/\(∀c,Zk D (k+t.length) (ZL f t (x/aV t) c))/\aT [rb,bc] σ σ':=by
 refine aQ (jS.o _ _) jS.h ?_
 unfold jS jI
 dsimp only
 have l0:=hf.wf.lt hr.r
 have l1:=hf.wf.lt hr.c
 have hlen:=hG.len
 have hkn:=hG.kn
 have hu:GR x (aV t)=x/aV t:=by unfold GR;rw[ae h0]
 generalize x/aV t=u at*
 have hW:=hf.wf
 simp(disch:=try exact jz) only[go_sem,z3,hlen,hu,hkn]
 refine bJ.st (Fr σ) (fr) λhF=>?_
 refine aF (λm tm σ'=>∃j,m=t.length-j/\j<=t.length/\Tr.ah tm 0=.c (.ptr rb 0)/\Tr.ah tm 6=.c (.ptr (σ.aj+1+1) 0)/\Tr.ah tm 18=.c G/\Tr.ah tm 19=.c (.int .i64 (.ofNat t.length))/\Tr.ah tm 20=.c (.int .i64 (.ofNat j))
  /\σ'.h (σ.aj+1+1)=some ⟨[.bool (rn u),.str (rs u),.str (rd u)],none⟩/\qM σ'.h rb bc n o c (ZL f (t.take j) u)/\(∀c,Zk D (k+j) (ZL f (t.take j) u c))/\aT [rb,bc] σ σ'/\σ.aj+3<=σ'.aj) t.length ?_ ?_
 .refine⟨0,jb,jb,?_⟩
  simp(disch:=try exact jz) only[go_sem,z3,am,cF,abP]
  exact⟨hr.fr hf.wf hF,hZ,hF.ex _,jb⟩
 .rintro m tm σ' ⟨j,rfl,hj,t0,t6,oh,t19,t20,hq,hr',hZ',hf',hnx⟩
  simp(disch:=try exact jz) only[go_sem,z3,t0,t6,oh,t19,t20]
  refine aH (λhlt=>?_) (λhlt=>?_)
  .obtain⟨b,o',c',rfl,hld⟩:=hG.pos jb
   have hld:=hld j hlt
   have hb0:=hW0.dF hld
   have hld:=hf'.ld hf.wf (by simp;omega) (hf.ld hW0 hld)
   have hpp:=hp _ (fO hlt)
   unfold y8 at hld
   have hb:=hf'.wf.dF hld
   have hsn:=W9 f (t.take j) (ix t j) u
   rw[<-take_snoc hlt]at hsn
   generalize ix t j=p at*
   obtain⟨hp1,hp2,hp3⟩:=hpp
   simp(disch:=try exact jz) only[go_sem,z3,t0,t6,oh,t19,t20,hld,ak hq]
   refine aC.st (Fr σ') (by have hW':=hf'.wf;exact fr) λhF=>?_
   refine(aog hF.wf (hr'.fr hf'.wf hF) _ (hp3.sz hD u1) _ ((hZ' _).sz hD (aw jb hk)) hp1).mono ?_
   rintro _ σ2 ⟨hr2,hf2⟩
   have hf3:aT [rb,bc] σ' σ2:=aT.trans (hF.ex _) hf2
   have hl2:σ'.aj+1<=σ2.aj:=hf2.le
   have hle:=hf'.le
   simp(disch:=try exact jz) only[go_sem,z3,t0,t6,oh,t19,t20]
   refine⟨t.length-(j+1),jb,j+1,rfl,jb,rfl,hf3.get hf'.wf (by simp;omega) hq,hsn▸hr2,λc=>?_,hf'.trans hf3,jb⟩
   rw[<-hsn]
   refine(hZ' c).add (l:=1) ?_
   split
   .exact hp3
   .exact Zk.zero
  .have:j=t.length:=jb
   subst this
   rw[cg]at hr' hZ'
   simp(disch:=try exact jz) only[go_sem,z3,t0,t6,oh,t19,t20]
   exact⟨hr',hZ',hf'⟩
def Hw:gu->Int->Rat
 |[],_=>0
 |t::l,c=>lW t c+Hw l c
def dh:gu->Nat
 |[]=>0
 |t::l=>t.length+dh l
def ad9(l:gu)(t:dP)(c:Int):Hw (l++[t]) c=Hw l c+lW t c:=by
 induction l with
 |nil=>show lW t c+0=0+lW t c;grind
 |cons u l ih=>show lW u c+Hw (l++[t]) c=lW u c+Hw l c+lW t c;rw[ih];grind
def NR(l:gu)(t:dP):dh (l++[t])=dh l+t.length:=by
 induction l with
 |nil=>show t.length+0=0+t.length;omega
 |cons u l ih=>show u.length+dh (l++[t])=u.length+dh l+t.length;rw[ih];omega
def NS(l:gu):∀j,dh (l.take j)<=dh l:=by
 induction l with
 |nil=>intro j;simp
 |cons u l ih=>
  intro j
  cases j with
  |zero=>simp[dh]
  |succ j=>rw[fD];have:=ih j;unfold dh;omega
def NT(l:gu){j:Nat}(h:j<l.length):dh (l.take j)+(ix l j).length<=dh l:=by rw[<-NR,<-take_snoc h];exact NS _ _
theorem NJ(l:gu):∀m,dN l m<=l.length:=by
 induction l with
 |nil=>intro m;exact cI 0
 |cons t l ih=>intro m;unfold dN;have:=ih (m-aV t);rw[bN];split<;>omega
def Ug{α:Type}[Inhabited α](a:α)(l:List α):ix (a::l) 0=a:=rfl
def KF{α:Type}[Inhabited α](a:α)(l:List α)(j:Nat):ix (a::l) (j+1)=ix l j:=rfl
def Jb(l:gu)(c:Int):∀m,iy l m c=Hw (l.take (dN l m)) c+if dN l m<l.length then lW (ix l (dN l m)) c*(jq l m/aV (ix l (dN l m)))else 0:=by
 induction l with
 |nil=>intro m;show(0:Rat)=0+_;simp;grind
 |cons t l ih=>
  intro m
  unfold iy dN jq
  by_cases h:m<aV t
  .simp only[ab h]
   rw[ab kc,Ug]
   show _=0+_
   grind
  .simp only[ae h]
   rw[ih,fD,KF]
   simp only[bN,Nat.add_lt_add_iff_right]
   show _=lW t c+Hw _ c+_
   grind
def DZ(l:gu)(c:Int)(r:Rat):∀m,jH l m r c=if dN l m<l.length then lW (ix l (dN l m)) c*(r/aV (ix l (dN l m)))else 0:=by
 induction l with
 |nil=>intro m;rfl
 |cons t l ih=>
  intro m
  unfold jH dN
  by_cases h:m<aV t
  .simp only[ab h]
   rw[ab kc,Ug]
  .simp only[ae h]
   rw[ih,KF]
   simp only[bN,Nat.add_lt_add_iff_right]
def aea(l:gu):∀m,lX l m=if dN l m<l.length then some (aV (ix l (dN l m))-jq l m)else none:=by
 induction l with
 |nil=>intro m;rfl
 |cons t l ih=>
  intro m
  unfold lX dN jq
  by_cases h:m<aV t
  .simp only[ab h]
   rw[ab kc,Ug]
  .simp only[ae h]
   rw[ih,KF]
   simp only[bN,Nat.add_lt_add_iff_right]
theorem Uh(l:gu):∀m,0<=m->0<=jq l m/\(dN l m<l.length->jq l m<aV (ix l (dN l m))):=by
 induction l with
 |nil=>intro m h;exact⟨h,λh=>by simp[dN]at h⟩
 |cons t l ih=>
  intro m h
  unfold dN jq
  by_cases h2:m<aV t
  .simp only[ab h2];exact⟨h,λ_=>h2⟩
  .simp only[ae h2]
   obtain⟨a,b⟩:=ih (m-aV t) kd
   exact⟨a,λh=>by rw[KF];exact b (by simp only[bN]at h;omega)⟩
theorem NU(l:gu):∀m,jq l m=m-Bd l (dN l m):=by
 induction l with
 |nil=>intro m;show m=m-0;grind
 |cons t l ih=>
  intro m
  unfold dN jq
  by_cases h:m<aV t
  .simp only[ab h];show m=m-0;grind
  .simp only[ae h]
   rw[ih]
   show _=m-(aV t+Bd l _)
   grind
structure NV(D n:Nat)(l:gu):Prop where
 len:l.length<=1000000
 tl:∀t∈l,t.length<=1000000
 st:∀t∈l,Sz (aV t)
 id:∀t∈l,∀p∈t,p.1=-1\/(0<=p.1/\p.1<n)
 sp:∀t∈l,∀p∈t,Sz p.2
 zp:∀t∈l,∀p∈t,Zk D 1 p.2
structure NW(D:Nat)(l:gu)(m x:Rat):Prop where
 cum:∀k,k<=l.length->Sz (m-Bd l k)
 nn:0<=m
 sx:Sz x
 q:dN l m<l.length->Sz (x/aV (ix l (dN l m)))
 z:dN l m<l.length->∀p∈ix l (dN l m),Zk D 1 (p.2*(x/aV (ix l (dN l m))))
def NW.ne{D:Nat}{l:gu}{m x:Rat}(h:NW D l m x)(hf:dN l m<l.length):aV (ix l (dN l m))≠0:=by have h1:=Uh l m h.nn;have h2:=h1.2 hf;intro e;rw[e]at h2;have:=h1.1;grind
def Hu.tier{h:Tr Bk}{v:B}{l:gu}(hl:Hu h v l){j:Nat}(hj:j<l.length):∃b o c G,v=.sl b o l.length c/\ld h b (o+j*4) 4 true=some (.agg (jI G (aV (ix l j))))/\HL h 4 G (ix l j).length (λi=>y8 (ix (ix l j) i))/\b<0+b+1:=by obtain⟨G,hG,-,hP⟩:=hl;obtain⟨b,o,c,e,hld⟩:=hG.pos jb;exact⟨b,o,c,G j,e,hld j hj,hP j hj,jb⟩
def abR{σ0 σ:St}(hW0:WF σ0)(hf:Fr σ0 σ){rb bc n:Nat}{o:Option (Nat×Nat)}{c:Cap}{f:Int->Rat}(hrb:σ0.aj<=rb)(hbc:σ0.aj<=bc)(hr:qM σ.h rb bc n o c f)
  (l:gu) (v:B) (hL:Hu σ0.h v l) (m x:Rat){D k:Nat}(hD:Bj D) (hl:NV D n l) (hs:NW D l m x) (hm:Sz m) (hZ:∀c,Zk D k (f c)) (hk:k+dh l<=256^uK):
  aC EN 141 [.c v,.agg [.bool (rn m),.str (rs m),.str (rd m)],.agg [.bool (rn x),.str (rs x),.str (rd x)],.c (.ptr rb 0)] σ λ_ σ'=>qM σ'.h rb bc n o c (λc=>f c+jH l m x c)/\(∀c,Zk D (k+dh l) (f c+jH l m x c))/\aT [rb,bc] σ σ':=by
 refine aQ (jU.o _ _) jU.h ?_
 unfold jU
 dsimp only
 have l0:=hf.wf.lt hr.r
 have l1:=hf.wf.lt hr.c
 have hlen:=hL.choose_spec.1.len
 simp(disch:=try exact jz) only[go_sem,z3,hlen]
 have hF:=Fr.new (Fr.new (Fr.refl hf.wf) ⟨[.bool (rn m),.str (rs m),.str (rd m)],none⟩) ⟨[.bool (rn x),.str (rs x),.str (rd x)],none⟩
 refine(Ue l v m _ hF.wf (hL.fr hW0 (hf.trans hF)) (λi hi=>hl.st _ (fO hi)) hs.cum hl.len).mono ?_
 rintro _ σ2 ⟨rfl,hf2⟩
 have hF2:=hF.trans hf2
 have hp2:σ2.h (σ.aj+1)=some ⟨[.bool (rn x),.str (rs x),.str (rd x)],none⟩:=hf2.get hF.wf (aA _ _ _)
 have hl2:σ.aj+1+1<=σ2.aj:=hf2.le
 simp(disch:=try exact jz) only[go_sem,z3,hlen]
 refine aH (λhlt=>?_) (λhlt=>?_)
 .obtain⟨b,o',c',G,rfl,hld,hP,-⟩:=hL.tier hlt
  have hb0:=hW0.dF hld
  have hld:=hF2.ld hf.wf (hf.ld hW0 hld)
  unfold jI at hld
  have hb:=hF2.wf.dF hld
  have JO:=fO hlt
  simp(disch:=try exact jz) only[go_sem,z3,hld,ak hp2,hP.kn]
  refine aC.st (Fr σ2) (by have hW2:=hF2.wf;exact fr) λhF3=>?_
  have oW:=hF2.trans hF3
  have hnp:=NT l hlt
  refine(abQ hW0 (hf.trans oW) hrb hbc (hr.fr hf.wf oW) (ix l (dN l m)) G hP x hs.sx (hl.st _ JO) (hs.ne hlt) (hs.q hlt) hD hZ (λp hp=>⟨hl.id _ JO p hp,hl.sp _ JO p hp,hs.z hlt p hp⟩) (aw jb hk) (hl.tl _ JO)).mono ?_
  rintro _ σ4 ⟨hr4,hZ4,hf4⟩
  have e:ZL f (ix l (dN l m)) (x/aV (ix l (dN l m)))=λc=>f c+jH l m x c:=by funext c;rw[DZ,ab hlt];rfl
  rw[e]at hr4 hZ4
  simp(disch:=try exact jz) only[go_sem,z3]
  exact⟨hr4,λc=>(hZ4 c).mono jb,(oW.ex _).trans hf4⟩
 .have e:(λc=>f c+jH l m x c)=f:=by funext c;rw[DZ,ae hlt,dE]
  have e2:∀c,f c+jH l m x c=f c:=λc=>bW e c
  simp(disch:=try exact jz) only[go_sem,z3,e,e2]
  have hr2:=hr.fr hf.wf hF2
  have b0:=hF2.wf.lt hr2.r
  have b1:=hF2.wf.lt hr2.c
  refine⟨hr2.set2 jb jb,λc=>(hZ c).mono jb,Fr.ex (by have hW2:=hF2.wf;exact fr) _⟩
def aoh{σ:St}(hW:WF σ)(l:gu)(v:B)(hL:Hu σ.h v l)(m:Rat)(hl:l.length<=1000000)(hst:∀t∈l,Sz (aV t))(hs:∀k,k<=l.length->Sz (m-Bd l k)):
  aC EN 182 [.c v,.agg [.bool (rn m),.str (rs m),.str (rd m)]] σ λr σ'=>r=(match lX l m with|some g=>.aX (.agg [.bool (rn g),.str (rs g),.str (rd g)]) (.aX (.c (.bool true)) .tnil)|none=>.aX (.agg [.bool (rn 0),.str (rs 0),.str (rd 0)]) (.aX (.c (.bool false)) .tnil))/\Fr σ σ':=by
 refine aQ (lS.o _ _) lS.h ?_
 unfold lS
 dsimp only
 have hlen:=hL.choose_spec.1.len
 simp(disch:=try exact jz) only[go_sem,z3,hlen]
 have hF:=Fr.new (Fr.new (Fr.refl hW) ⟨[.bool (rn m),.str (rs m),.str (rd m)],none⟩) ⟨[.bool (rn 0),.str (rs 0),.str (rd 0)],none⟩
 refine(Ue l v m _ hF.wf (hL.fr hW hF) (λi hi=>hst _ (fO hi)) hs hl).mono ?_
 rintro _ σ2 ⟨rfl,hf2⟩
 have hF2:=hF.trans hf2
 have hp2:σ2.h (σ.aj+1)=some ⟨[.bool (rn 0),.str (rs 0),.str (rd 0)],none⟩:=hf2.get hF.wf (aA _ _ _)
 have hl2:σ.aj+1+1<=σ2.aj:=hf2.le
 have hfl:=NJ l m
 rw[aea]
 simp(disch:=try exact jz) only[go_sem,z3,hlen]
 refine aH (λhlt=>?_) (λhlt=>?_)
 .rw[ae jb]
  simp(disch:=try exact jz) only[go_sem,z3,ak hp2,aI hp2,hp2]
  exact fr
 .have hlt:dN l m<l.length:=jb
  rw[ab hlt]
  obtain⟨b,o',c',G,rfl,hld,hP,-⟩:=hL.tier hlt
  have hld:=hF2.ld hW hld
  unfold jI at hld
  have hb:=hF2.wf.dF hld
  have JO:=hst _ (fO hlt)
  have hlm:Sz (jq l m):=by rw[NU];exact hs _ hfl
  simp(disch:=try exact jz) only[go_sem,z3,hld,wI hld,ak hp2,aI hp2,hp2]
  exact fr
def Jc(f:Int->Rat)(l:gu)(c:Int):Rat:=f c+Hw l c
def ahF(f:Int->Rat):Jc f []=f:=by funext c;show f c+0=f c;grind
def aeb(f:Int->Rat)(l:gu)(t:dP):ZL (Jc f l) t 1=Jc f (l++[t]):=by funext c;unfold ZL Jc;rw[ad9];grind
def aoi{σ0 σ:St}(hW0:WF σ0)(hf:Fr σ0 σ){rb bc n:Nat}{o:Option (Nat×Nat)}{c:Cap}{f:Int->Rat}(hrb:σ0.aj<=rb)(hbc:σ0.aj<=bc)(hr:qM σ.h rb bc n o c f)
  (l:gu) (v:B) (hL:Hu σ0.h v l) (m:Rat){D k:Nat}(hD:Bj D) (hl:NV D n l) (hs:NW D l m (jq l m)) (hm:Sz m) (hZ:∀c,Zk D k (f c)) (hk:k+dh l<=256^uK) (hpos:0<l.length):
  aC EN 96 [.c v,.agg [.bool (rn m),.str (rs m),.str (rd m)],.c (.ptr rb 0)] σ λ_ σ'=>qM σ'.h rb bc n o c (λc=>f c+iy l m c)/\(∀c,Zk D (k+dh l) (f c+iy l m c))/\aT [rb,bc] σ σ':=by
 refine aQ (lK.o _ _) lK.h ?_
 unfold lK
 dsimp only
 have l0:=hf.wf.lt hr.r
 have l1:=hf.wf.lt hr.c
 have hlen:=hL.choose_spec.1.len
 simp(disch:=try exact jz) only[go_sem,z3,hlen]
 have hF:=Fr.new (Fr.refl hf.wf) ⟨[.bool (rn m),.str (rs m),.str (rd m)],none⟩
 refine(Ue l v m _ hF.wf (hL.fr hW0 (hf.trans hF)) (λi hi=>hl.st _ (fO hi)) hs.cum hl.len).mono ?_
 rintro _ σ2 ⟨rfl,hf2⟩
 have hF2:=hF.trans hf2
 have hl2:σ.aj+1<=σ2.aj:=hf2.le
 have hfl:=NJ l m
 have hll:=hl.len
 obtain⟨G,hG,hcap,hP⟩:=hL
 obtain⟨b,o',c0,rfl,uN⟩:=hG.pos hpos
 obtain⟨v',hv',-,⟨h0,-⟩|⟨b2,o2,c2,c',h2,rfl⟩⟩:=aql hcap (.inr ⟨b,o',c0,rfl,hpos⟩) hfl 4
 .omega
 cases h2
 simp(disch:=try exact jz) only[go_sem,z3,hlen,hv']
 refine bJ.st (Fr σ2) (by have hW2:=hF2.wf;exact fr) λhF3=>?_
 have oW:=hF2.trans hF3
 refine aF (λq tm σ'=>∃j,q=dN l m-j/\j<=dN l m/\Tr.ah tm 0=.c (.sl b o' l.length c0)/\Tr.ah tm 2=.c (.ptr rb 0)/\Tr.ah tm 6=.c (.int .i64 (.ofNat (dN l m)))/\Tr.ah tm 7=.c (.ptr σ2.aj 0)
  /\Tr.ah tm 20=.c (.sl b o' (dN l m) c')/\Tr.ah tm 21=.c (.int .i64 (.ofNat (dN l m)))/\Tr.ah tm 22=.c (.int .i64 (.ofNat j))
  /\σ'.h σ2.aj=some ⟨[.bool (rn (jq l m)),.str (rs (jq l m)),.str (rd (jq l m))],none⟩/\qM σ'.h rb bc n o c (Jc f (l.take j))/\(∀c,Zk D (k+dh (l.take j)) (Jc f (l.take j) c))/\aT [rb,bc] σ σ'/\σ2.aj+1<=σ'.aj) (dN l m) ?_ ?_
 .refine⟨0,jb,jb,?_⟩
  simp(disch:=try exact jz) only[go_sem,z3,am,cF,ahF]
  exact⟨hr.fr hf.wf oW,λc=>(hZ c).mono jb,oW.ex _,jp⟩
 .rintro q tm σ' ⟨j,rfl,hj,t0,t2,t6,t7,t20,t21,t22,hq,hr',hZ',hf',hnx⟩
  simp(disch:=try exact jz) only[go_sem,z3,t0,t2,t6,t7,t20,t21,t22]
  refine aH (λhlt=>?_) (λhlt=>?_)
  .have hjl:j<l.length:=jb
   have JO:=fO hjl
   have D8:=hP j hjl
   have htl:=hl.tl _ JO
   have hpl:=D8.len
   have aec:=uN j hjl
   have hb0:=hW0.dF aec
   have hld:=hf'.ld hf.wf (by simp;omega) (hf.ld hW0 aec)
   unfold jI at hld
   have hb:=hf'.wf.dF hld
   simp(disch:=try exact jz) only[go_sem,z3,t0,t2,t6,t7,t20,t21,t22,hld,D8.kn,hpl]
   refine bJ.st (Fr σ') (by have hW2:=hf'.wf;exact fr) λiD=>?_
   refine aF (λq tm σ3=>∃i,q=(ix l j).length-i/\i<=(ix l j).length/\Tr.ah tm 0=.c (.sl b o' l.length c0)/\Tr.ah tm 2=.c (.ptr rb 0)/\Tr.ah tm 6=.c (.int .i64 (.ofNat (dN l m)))/\Tr.ah tm 7=.c (.ptr σ2.aj 0)
    /\Tr.ah tm 20=.c (.sl b o' (dN l m) c')/\Tr.ah tm 21=.c (.int .i64 (.ofNat (dN l m)))/\Tr.ah tm 22=.c (.int .i64 (.ofNat j))/\Tr.ah tm 27=.c (G j)/\Tr.ah tm 28=.c (.int .i64 (.ofNat (ix l j).length))/\Tr.ah tm 29=.c (.int .i64 (.ofNat i))
    /\qM σ3.h rb bc n o c (ZL (Jc f (l.take j)) ((ix l j).take i) 1)/\(∀c,Zk D (k+dh (l.take j)+i) (ZL (Jc f (l.take j)) ((ix l j).take i) 1 c))/\aT [rb,bc] σ' σ3) (ix l j).length ?_ ?_
   .refine⟨0,jb,jb,?_⟩
    simp(disch:=try exact jz) only[go_sem,z3,t0,t2,t6,t7,t20,t21,t22,am,cF,abP]
    exact⟨hr'.fr hf'.wf iD,hZ',iD.ex _⟩
   .rintro q VB σ3 ⟨i,rfl,hi,t0,t2,t6,t7,t20,t21,t22,t27,t28,t29,hr3,hZ3,hf3⟩
    simp(disch:=try exact jz) only[go_sem,z3,t0,t2,t6,t7,t20,t21,t22,t27,t28,t29]
    refine aH (λZM=>?_) (λZM=>?_)
    .obtain⟨b3,o3,c3,e3,uf⟩:=D8.pos jb
     rw[e3]at t27
     have uf:=uf i ZM
     have hb3:=hW0.dF uf
     have hlx:=(hf'.trans hf3).ld hf.wf (by simp;omega) (hf.ld hW0 uf)
     unfold y8 at hlx
     have hb4:=hf3.wf.dF hlx
     have hsn:=W9 (Jc f (l.take j)) ((ix l j).take i) (ix (ix l j) i) 1
     rw[<-take_snoc ZM,Rat.mul_one]at hsn
     have hpm:=fO ZM
     have hid:=hl.id _ JO _ hpm
     have hsp:=hl.sp _ JO _ hpm
     have hzp:=hl.zp _ JO _ hpm
     have hnp:=NT l hjl
     generalize ix (ix l j) i=p at*
     simp(disch:=try exact jz) only[go_sem,z3,t0,t2,t6,t7,t20,t21,t22,t27,t28,t29,hlx]
     refine aC.st (Fr σ3) (by have hW2:=hf3.wf;exact fr) λkY=>?_
     refine(aog kY.wf (hr3.fr hf3.wf kY) _ hsp _ ((hZ3 _).sz hD (aw jb hk)) hid).mono ?_
     rintro _ σ5 ⟨hr5,hf5⟩
     rw[hsn]at hr5
     simp(disch:=try exact jz) only[go_sem,z3,t0,t2,t6,t7,t20,t21,t22,t27,t28,t29]
     refine⟨(ix l j).length-(i+1),jb,i+1,rfl,jb,e3.symm▸rfl,rfl,hr5,λc=>?_,hf3.trans ((kY.ex _).trans hf5)⟩
     rw[<-hsn]
     refine(hZ3 c).add (l:=1) ?_
     split
     .exact hzp
     .exact Zk.zero
    .have:i=(ix l j).length:=jb
     subst this
     rw[cg,aeb,<-take_snoc hjl]at hr3 hZ3
     have hnp:=NR (l.take j) (ix l j)
     rw[<-take_snoc hjl]at hnp
     have hfx:=hf3.le
     have hqx:=hf3.get hf'.wf (show¬σ2.aj∈[rb,bc] by simp;omega) hq
     simp(disch:=try exact jz) only[go_sem,z3,t0,t2,t6,t7,t20,t21,t22,t27,t28,t29]
     exact⟨dN l m-(j+1),jb,j+1,rfl,jb,rfl,hqx,hr3,λc=>(hZ3 c).mono jb,hf'.trans hf3,jb⟩
  .have:j=dN l m:=jb
   subst this
   simp(disch:=try exact jz) only[go_sem,z3,t0,t2,t6,t7,t20,t21,t22]
   refine aH (λhlf=>?_) (λhlf=>?_)
   .have JO:=fO hlf
    have aec:=uN _ hlf
    have hb0:=hW0.dF aec
    have hld:=hf'.ld hf.wf (by simp;omega) (hf.ld hW0 aec)
    unfold jI at hld
    have hb:=hf'.wf.dF hld
    have hnp:=NT l hlf
    simp(disch:=try exact jz) only[go_sem,z3,t0,t2,t6,t7,t20,t21,t22,hld,ak hq,(hP _ hlf).kn]
    refine(abQ hW0 (hf'.to hf (by simp;omega)) hrb hbc hr' (ix l (dN l m)) (G (dN l m)) (hP _ hlf) (jq l m) hs.sx (hl.st _ JO) (hs.ne hlf) (hs.q hlf) hD hZ' (λp hp=>⟨hl.id _ JO p hp,hl.sp _ JO p hp,hs.z hlf p hp⟩) (aw jb hk) (hl.tl _ JO)).mono ?_
    rintro _ σ4 ⟨hr4,hZ4,hf5⟩
    have e:ZL (Jc f (l.take (dN l m))) (ix l (dN l m)) (jq l m/aV (ix l (dN l m)))=λc=>f c+iy l m c:=by funext c;rw[Jb,ab hlf];unfold ZL Jc;grind
    rw[e]at hr4 hZ4
    simp(disch:=try exact jz) only[go_sem,z3]
    exact⟨hr4,λc=>(hZ4 c).mono jb,hf'.trans hf5⟩
   .have e:Jc f (l.take (dN l m))=λc=>f c+iy l m c:=by funext c;rw[Jb,ae hlf];unfold Jc;grind
    have hnp:=NS l (dN l m)
    rw[e]at hr' hZ'
    simp(disch:=try exact jz) only[go_sem,z3]
    exact⟨hr',λc=>(hZ' c).mono jb,hf'⟩
theorem lZ{α:Type}(l:List α)(a:α)(f:α->Rat):aJ (l++[a]) f=aJ l f+f a:=by
 induction l with
 |nil=>show f a+0=0+f a;grind
 |cons b l ih=>show f b+aJ (l++[a]) f=f b+aJ l f+f a;rw[ih];grind
def Ui{α:Type}{D k:Nat}{f:α->Rat}:∀{l:List α},(∀a∈l,Zk D k (f a))->Zk D (k*l.length) (aJ l f)
 |[],_=>Zk.zero
 |a::l,h=>by have:=(h a kc).add (Ui (l:=l) λb hb=>h b (by simp[hb]));rw[bN,Nat.mul_succ,eL];exact this
def ahG{α:Type}{l:List α}{a:α}{j:Nat}(h:a∈l.take j):a∈l:=dT h
def Pn(ms:List Nat)(i:Nat):B:=.int .i64 (.ofNat (ix ms i))
def Hz{σ:St}(hW:WF σ){n:Nat}(ms:List Nat)(mv lv rv:B)(f:Nat->Rat)(hm:HC σ.h mv ms.length (Pn ms))(hv:HL σ.h 3 rv n λi=>gX (f i))(hms:∀i∈ms,i<n)(hl:ms.length<=1000000)
  {D k:Nat}(hD:Bj D) (hZ:∀i,i<n->Zk D k (f i)) (hk:k*(ms.length+1)<=256^uK):
  aC EN 97 [.agg [mv,lv],.c rv] σ λr σ'=>r=.agg [.bool (rn (aJ ms f)),.str (rs (aJ ms f)),.str (rd (aJ ms f))]/\Fr σ σ':=by
 refine aQ (lM.o _ _) lM.h ?_
 unfold lM
 dsimp only
 have hlen:=hm.len
 simp(disch:=try exact jz) only[go_sem,z3,hlen,hm.kn]
 refine bJ.st (Fr σ) (fr) λhF=>?_
 refine aF (λq tm σ'=>∃j,q=ms.length-j/\j<=ms.length/\Tr.ah tm 1=.c rv/\Tr.ah tm 4=.c (.ptr (σ.aj+1) 0)/\Tr.ah tm 5=.c (.ptr (σ.aj+1+1) 0)/\Tr.ah tm 10=.c mv/\Tr.ah tm 11=.c (.int .i64 (.ofNat ms.length))/\Tr.ah tm 12=.c (.int .i64 (.ofNat j))
  /\σ'.h (σ.aj+1)=some ⟨[.bool (rn 0),.str (rs 0),.str (rd 0)],none⟩/\σ'.h (σ.aj+1+1)=some ⟨[.bool (rn (aJ (ms.take j) f)),.str (rs (aJ (ms.take j) f)),.str (rd (aJ (ms.take j) f))],none⟩/\Fr σ σ'/\σ.aj+3<=σ'.aj) ms.length ?_ ?_
 .refine⟨0,jb,jb,?_⟩
  simp(disch:=try exact jz) only[go_sem,z3,am,cF,show aJ ([]:List Nat) f=0 from rfl]
  exact⟨hF,jb⟩
 .rintro q tm σ' ⟨j,rfl,hj,t1,t4,t5,t10,t11,t12,hq1,hq2,hf',hnx⟩
  simp(disch:=try exact jz) only[go_sem,z3,t1,t4,t5,t10,t11,t12]
  refine aH (λhlt=>?_) (λhlt=>?_)
  .obtain⟨b,o,c,rfl,hld⟩:=hm.pos jb
   have hld:=hf'.ld hW (hld j hlt)
   have hn:=hms _ (fO hlt)
   obtain⟨b2,o2,c2,rfl,Em⟩:=hv.pos jb
   have Em:=hf'.ld hW (Em _ hn)
   have hb2:=hf'.wf.dF Em
   unfold Pn at hld
   unfold gX at Em
   have hsn:=lZ (ms.take j) (ix ms j) f
   rw[<-take_snoc hlt]at hsn
   have hz1:Sz (f (ix ms j)):=(hZ _ hn).sz hD (aw (fw _ jb) hk)
   have hz2:Sz (aJ (ms.take j) f):=(Ui λa ha=>hZ a (hms a (ahG ha))).sz hD (aw (ck _ (by rw[da];omega)) hk)
   simp(disch:=try exact jz) only[go_sem,z3,t1,t4,t5,t10,t11,t12,hld,Em,ak hq2,hq1,hq2,aI hq2,<-hsn]
   refine⟨ms.length-(j+1),jb,j+1,rfl,jb,rfl,rfl,?_,jb⟩
   exact fr
  .have:j=ms.length:=jb
   subst this
   rw[cg]at hq2
   simp(disch:=try exact jz) only[go_sem,z3,t1,t4,t5,t10,t11,t12,ak hq2,hq1,aI hq1]
   exact fr
structure Jd(h:Tr Bk)(rv pv:B)(e:eH):Prop where
 rk:Hu h rv e.rk
 ps:∃Gm Gl:Nat->B,HL h 2 pv e.ps.length (λi=>[Gm i,Gl i])/\∀i,i<e.ps.length->HC h (Gm i) (ix e.ps i).1.length (Pn (ix e.ps i).1)/\Hu h (Gl i) (ix e.ps i).2
theorem Jd.fr{σ σ':St}(hW:WF σ)(hf:Fr σ σ'){rv pv:B}{e:eH}(h:Jd σ.h rv pv e):Jd σ'.h rv pv e:=by obtain⟨h1,Gm,Gl,h2,h3⟩:=h;exact⟨h1.fr hW hf,Gm,Gl,h2.fr hW hf,λi hi=>⟨(h3 i hi).1.fr hW hf,(h3 i hi).2.fr hW hf⟩⟩
def jo(n:Nat)(rv pv:B)(t:Rat):List B:=[.int .i64 (.ofNat n),rv,pv,.bool (rn t),.str (rs t),.str (rd t)]
def Hu.kn{h:Tr Bk}{v:B}{l:gu}(hl:Hu h v l):v.kn=true:=hl.choose_spec.1.kn
def Jd.Vd{h:Tr Bk}{rv pv:B}{e:eH}(hl:Jd h rv pv e):pv.kn=true:=by obtain⟨_,Gm,Gl,h2,h3⟩:=hl;exact h2.kn
structure auu(σ σ':St)(r:V)(n:Nat)(f:Nat->Rat)(b:Nat):Prop where
 r:r=.c (.sl b 0 n (.ex n))
 c:σ'.h b=some ⟨bZ n f,none⟩
 b:σ.aj<=b
def KG{σ:St}(hW:WF σ){n:Nat}{rv pv:B}(t:Rat)(e:eH)(hL:Jd σ.h rv pv e)(m:Rat){D:Nat}(hD:Bj D)(hn:n<=1000000)(hl:NV D n e.rk)(hs:NW D e.rk m (jq e.rk m))(hm:Sz m)(hk:dh e.rk<=256^uK)(hpos:0<e.rk.length):
  aC EN 57 [.agg (jo n rv pv t),.agg [.bool (rn m),.str (rs m),.str (rd m)]] σ λr σ'=>(∃b,auu σ σ' r n (λi=>yG e m i) b)/\(∀i:Nat,Zk D (dh e.rk) (yG e m i))/\Fr σ σ':=by
 refine aQ (jM.o _ _) jM.h ?_
 unfold jM jo
 dsimp only
 simp(disch:=try exact jz) only[go_sem,z3,hL.rk.kn]
 refine aC.st (Fr σ) (fr) λhF=>?_
 refine(aoi (f:=λ_=>0) (k:=0) hW hF jb jb ⟨aA _ _ _,(au _ _ _ _ jb).trans (aA _ _ _),rfl,rfl,jb⟩ e.rk rv hL.rk m hD hl hs hm (λ_=>Zk.zero) jb hpos).mono ?_
 rintro _ σ2 ⟨hr2,hZ2,hf2⟩
 have hz:(λc=>(0:Rat)+iy e.rk m c)=iy e.rk m:=by funext c;grind
 have hz2:∀c,(0:Rat)+iy e.rk m c=iy e.rk m c:=λc=>by grind
 rw[hz]at hr2
 simp only[hz2,cG]at hZ2
 have h5:=hr2.r
 simp(disch:=try exact jz) only[go_sem,z3,ak h5]
 exact⟨⟨_,rfl,hr2.c,jb⟩,λi=>hZ2 i,hf2.to hF (by simp;omega)⟩
def abT{σ:St}(hW:WF σ){n:Nat}{rv pv:B}(t:Rat)(e:eH)(hL:Jd σ.h rv pv e)(m:Rat){D:Nat}(hD:Bj D)(hn:n<=1000000)(hl:NV D n e.rk)(hs:NW D e.rk m 1)(hm:Sz m)(hk:dh e.rk<=256^uK):
  aC EN 140 [.agg (jo n rv pv t),.agg [.bool (rn m),.str (rs m),.str (rd m)]] σ λr σ'=>(∃b,auu σ σ' r n (λi=>rts e m i) b)/\(∀i:Nat,Zk D (dh e.rk) (rts e m i))/\Fr σ σ':=by
 refine aQ (jT.o _ _) jT.h ?_
 unfold jT jo
 dsimp only
 simp(disch:=try exact jz) only[go_sem,z3,hL.rk.kn]
 refine aC.st (Fr σ) (fr) λhF=>?_
 refine(abR (f:=λ_=>0) (k:=0) hW hF jb jb ⟨aA _ _ _,(au _ _ _ _ jb).trans (aA _ _ _),rfl,rfl,jb⟩ e.rk rv hL.rk m 1 hD hl hs hm (λ_=>Zk.zero) jb).mono ?_
 rintro _ σ2 ⟨hr2,hZ2,hf2⟩
 have hz:(λc=>(0:Rat)+jH e.rk m 1 c)=jH e.rk m 1:=by funext c;grind
 have hz2:∀c,(0:Rat)+jH e.rk m 1 c=jH e.rk m 1 c:=λc=>by grind
 rw[hz]at hr2
 simp only[hz2,cG]at hZ2
 have h5:=hr2.r
 simp(disch:=try exact jz) only[go_sem,z3,ak h5]
 exact⟨⟨_,rfl,hr2.c,jb⟩,λi=>hZ2 i,hf2.to hF (by simp;omega)⟩
def abU{σ:St}(hW:WF σ){n b:Nat}{c:Cap}{f:Nat->Rat}(hb:σ.h b=some ⟨bZ n f,none⟩)(hn:n<=1000000):
  aC EN 55 [.c (.sl b 0 n c)] σ λr σ'=>(∃b' c' o',r=.c (.sl b' 0 n c')/\σ'.h b'=some ⟨bZ n f,o'⟩/\plo o'=true/\Yk o'=true/\σ.aj<=b'/\b'<σ'.aj)/\Fr σ σ':=by
 refine aQ (iF.o _ _) iF.h ?_
 unfold iF
 dsimp only
 have hbl:=hW.lt hb
 by_cases h0:n=0
 .subst h0
  simp(disch:=try exact jz) only[go_sem,z3,hb]
  refine⟨⟨σ.aj,_,none,rfl,aA _ _ _,rfl,rfl,jp,bY _⟩,?_⟩
  exact fr
 .simp(disch:=try exact jz) only[go_sem,z3,hb]
  refine⟨⟨σ.aj+1,_,_,rfl,aA _ _ _,rfl,rfl,jb,bY _⟩,?_⟩
  exact fr
def zF(l:List Nat)(f:Nat->Rat):Int->Rat:=λi=>if 0<=i then(if l.contains i.toNat then 0 else f i.toNat)else 0
def NY(l:List Nat)(f:Nat->Rat):zF l f (-1)=0:=ae jb
def Uj(l:List Nat)(f:Nat->Rat)(i:Nat):zF l f i=if l.contains i then 0 else f i:=by unfold zF;rw[ab jb,gb]
def ami(l:List Nat)(f:Nat->Rat)(k n:Nat):bZ n (aK (λi=>zF l f i) k 0)=bZ n λi=>zF (l++[k]) f i:=by
 refine dO λi _=>?_;show(if i=k then 0 else zF l f i)=_;rw[Uj,Uj,List.contains_append];by_cases h:i=k
 .subst h;simp
 .rw[ae h];simp[h]
def flat(ps:List (List Nat×gu)):List Nat:=ps.flatMap λp=>p.1
def aed(ps:List (List Nat×gu))(p:List Nat×gu):flat (ps++[p])=flat ps++p.1:=by unfold flat;simp
def JG(e:eH)(c:Nat):(flat e.ps).contains c=pooled e c:=by
 unfold flat pooled;induction e.ps with
 |nil=>rfl
 |cons p l ih=>rw[gR,List.contains_append,List.any_cons,ih]
def ahH{σ:St}(hW:WF σ){n b:Nat}{rv pv:B}(t:Rat)(e:eH)(hL:Jd σ.h rv pv e){f:Nat->Rat}(hb:σ.h b=some ⟨bZ n f,none⟩){c:Cap}(hn:n<=1000000)(hp:e.ps.length<=1000000)(hm:∀p∈e.ps,p.1.length<=1000000/\∀i∈p.1,i<n):
  aC EN 95 [.agg (jo n rv pv t),.c (.sl b 0 n c)] σ λr σ'=>(∃rb bc o c',r=.c (.ptr rb 0)/\qM σ'.h rb bc n o c' (zF (flat e.ps) f)/\σ.aj<=rb/\σ.aj<=bc)/\Fr σ σ':=by
 refine aQ (kG.o _ _) kG.h ?_
 unfold kG jo
 dsimp only
 simp(disch:=try exact jz) only[go_sem,z3]
 refine aC.st (Fr σ) (fr) λhF=>?_
 refine(abU hF.wf (hF.get hW hb) hn).mono ?_
 rintro _ σ2 ⟨⟨bc,c',o,rfl,h2,hpl,hrd,hbc,hbc2⟩,hf2⟩
 have hF2:=hF.trans hf2
 obtain⟨-,Gm,Gl,hG,hP⟩:=hL
 have hlen:=hG.len
 have hbox:σ2.h σ.aj=some ⟨[.int .i64 (.ofNat n),rv,pv,.bool (rn t),.str (rs t),.str (rd t)],none⟩:=hf2.get hF.wf (aA _ _ _)
 have hl2:σ.aj+1<=σ2.aj:=hf2.le
 have hbc:σ.aj+1<=bc:=hbc
 simp(disch:=try exact jz) only[go_sem,z3,ak hbox,hlen,hG.kn]
 refine aF (λq tm σ'=>∃j,q=e.ps.length-j/\j<=e.ps.length/\Tr.ah tm 5=.c (.ptr σ2.aj 0)/\Tr.ah tm 15=.c pv/\Tr.ah tm 16=.c (.int .i64 (.ofNat e.ps.length))/\Tr.ah tm 17=.c (.int .i64 (.ofNat j))
  /\qM σ'.h σ2.aj bc n o c' (zF (flat (e.ps.take j)) f)/\Fr σ σ'/\σ2.aj+1<=σ'.aj) e.ps.length ?_ ?_
 .refine⟨0,jb,jb,?_⟩
  simp(disch:=try exact jz) only[go_sem,z3,am,cF]
  refine⟨⟨?_,?_,hpl,hrd,jb⟩,?_,jp⟩
  .rw[aA,NY]
  .rw[au _ _ _ _ jb,h2]
   congr 2
  .exact fr
 .rintro q tm σ' ⟨j,rfl,hj,t5,t15,t16,t17,hr,hf',hnx⟩
  simp(disch:=try exact jz) only[go_sem,z3,t5,t15,t16,t17]
  refine aH (λhlt=>?_) (λhlt=>?_)
  .obtain⟨b2,o2,c2,rfl,hld⟩:=hG.pos jb
   have hld:=hf'.ld hW (hld j hlt)
   have hb2:=hf'.wf.dF hld
   have D8:=hP j hlt
   have hpl2:=D8.1.len
   have hmj:=hm _ (fO hlt)
   have hfs:=aed (e.ps.take j) (ix e.ps j)
   rw[<-take_snoc hlt]at hfs
   generalize ix e.ps j=p at*
   simp(disch:=try exact jz) only[go_sem,z3,t5,t15,t16,t17,hld,D8.1.kn,D8.2.kn,hpl2]
   refine bJ.st (Fr σ') (by have hW2:=hf'.wf;exact fr) λiD=>?_
   refine aF (λq tm σ3=>∃i,q=p.1.length-i/\i<=p.1.length/\Tr.ah tm 5=.c (.ptr σ2.aj 0)/\Tr.ah tm 15=.c (.sl b2 o2 e.ps.length c2)/\Tr.ah tm 16=.c (.int .i64 (.ofNat e.ps.length))/\Tr.ah tm 17=.c (.int .i64 (.ofNat j))
    /\Tr.ah tm 22=.c (Gm j)/\Tr.ah tm 23=.c (.int .i64 (.ofNat p.1.length))/\Tr.ah tm 24=.c (.int .i64 (.ofNat i))
    /\qM σ3.h σ2.aj bc n o c' (zF (flat (e.ps.take j)++p.1.take i) f)/\Fr σ σ3/\σ2.aj+1<=σ3.aj) p.1.length ?_ ?_
   .refine⟨0,jb,jb,?_⟩
    simp(disch:=try exact jz) only[go_sem,z3,t5,t15,t16,t17,am,cF,df]
    exact⟨hr.fr hf'.wf iD,hf'.trans iD,jb⟩
   .rintro q VB σ3 ⟨i,rfl,hi,t5,t15,t16,t17,t22,t23,t24,hr3,hf3,hn3⟩
    simp(disch:=try exact jz) only[go_sem,z3,t5,t15,t16,t17,t22,t23,t24]
    refine aH (λZM=>?_) (λZM=>?_)
    .obtain⟨b3,o3,c3,e3,uf⟩:=D8.1.pos jb
     rw[e3]at t22
     have uf:=hf3.ld hW (uf i ZM)
     unfold Pn at uf
     have hin:=hmj.2 _ (fO ZM)
     have hzs:=ami (flat (e.ps.take j)++p.1.take i) f (ix p.1 i) n
     rw[gP,<-take_snoc ZM]at hzs
     have auv:=hr3.r
     have auw:=hr3.c
     have hb3:=hf3.wf.lt auw
     simp(disch:=try exact jz) only[go_sem,z3,t5,t15,t16,t17,t22,t23,t24,uf,ak auv,aI auw,hpl,hzs]
     refine⟨p.1.length-(i+1),jb,i+1,rfl,jb,e3.symm▸rfl,rfl,⟨?_,aA _ _ _,hpl,hrd,jb⟩,?_,jb⟩
     .rw[au _ _ _ _ jb,auv,NY,NY]
     .exact fr
    .have:i=p.1.length:=jb
     subst this
     rw[cg,<-hfs]at hr3
     simp(disch:=try exact jz) only[go_sem,z3,t5,t15,t16,t17,t22,t23,t24]
     exact⟨e.ps.length-(j+1),jb,j+1,rfl,jb,rfl,hr3,hf3,jb⟩
  .have:j=e.ps.length:=jb
   subst this
   rw[cg]at hr
   simp(disch:=try exact jz) only[go_sem,z3,t5,t15,t16,t17]
   exact⟨⟨_,_,_,_,rfl,hr,jb,jb⟩,hf'⟩
end Go.Proofs.Xe
