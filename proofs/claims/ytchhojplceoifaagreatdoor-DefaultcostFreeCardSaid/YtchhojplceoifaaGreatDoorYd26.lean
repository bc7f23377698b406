import Derived.Test.YtchhojplceoifaaGreatDoorYd25
set_option linter.all false
set_option maxRecDepth 100000
namespace Go.Proofs.Xe
open Go.RowKit Go.Proofs.Ins
structure sU(h:Tr Bk)(rb bc n:Nat)(o:Option (Nat×Nat))(c:Cap)(f:Int->Rat):Prop where
 r:h rb=some ⟨[.sl bc 0 n c,.bool (rn (f (-1))),.str (rs (f (-1))),.str (rd (f (-1)))],none⟩
 c:h bc=some ⟨cO n λi=>f i,o⟩
 pl:plo o=true
 rd:ZP o=true
 ne:rb≠bc
def VL(f:Int->Rat)(k:Int)(q:Rat):Int->Rat:=λc=>f c+if c=k then q else 0
def sU.set{h:Tr Bk}{rb bc n b:Nat}{o:Option (Nat×Nat)}{c:Cap}{f:Int->Rat}(hr:sU h rb bc n o c f)(h1:rb≠b)(h2:bc≠b)(k:Bk):sU (hset h b k) rb bc n o c f:=
 ⟨by rw[ak _ _ _ _ h1];exact hr.r,by rw[ak _ _ _ _ h2];exact hr.c,hr.pl,hr.rd,hr.ne⟩
def sU.set2{h:Tr Bk}{rb bc n b:Nat}{o:Option (Nat×Nat)}{c:Cap}{f:Int->Rat}(hr:sU h rb bc n o c f)(h1:rb≠b)(h2:bc≠b){k k':Bk}:sU (hset (hset h b k) b k') rb bc n o c f:=(hr.set h1 h2 k).set h1 h2 k'
def aw7{σ:St}(hW:WF σ){rb bc n:Nat}{o:Option (Nat×Nat)}{c:Cap}{f:Int->Rat}(hr:sU σ.h rb bc n o c f)(q:Rat)(hq:Sz q)(hz:Sz (f (-1))):
  aC EN 186 [.c (.ptr rb 0),.c (.int .i64 (.negSucc 0)),.agg [.bool (rn q),.str (rs q),.str (rd q)]] σ λ_ σ'=>sU σ'.h rb bc n o c (VL f (-1) q)/\aU [rb,bc] σ σ':=by
 refine aP (fP.o _ _) fP.h ?_
 unfold fP
 dsimp only
 obtain⟨h0,h1,hpl,hrd,hne⟩:=hr
 have l0:=hW.lt h0
 have l1:=hW.lt h1
 simp(disch:=try exact jz) only[go_sem,z3,au h0,h0]
 refine⟨⟨?_,?_,hpl,hrd,hne⟩,?_⟩
 .rw[aA];simp[VL]
 .rw[ak _ _ _ _ hne.symm,ak _ _ _ _ jb,h1,dR]
  intro i _
  unfold VL
  rw[ab jb];grind
 .repeat(first|assumption|exact aU.refl (by assumption)|exact aU.up (by assumption) kf|exact aU.up (aU.refl (by assumption)) kf|refine aU.set1 ?_ kg kf|refine aU.lU ?_ kg|refine aU.oD ?_ kg|refine aU.pG ?_ kf)
def aw8{σ:St}(hW:WF σ){rb bc n:Nat}{o:Option (Nat×Nat)}{c:Cap}{f:Int->Rat}(hr:sU σ.h rb bc n o c f)(q:Rat)(hq:Sz q)(k:Nat)(hz:Sz (f k))(hk:k<n):
  aC EN 186 [.c (.ptr rb 0),.c (.int .i64 (.ofNat k)),.agg [.bool (rn q),.str (rs q),.str (rd q)]] σ λ_ σ'=>sU σ'.h rb bc n o c (VL f k q)/\aU [rb,bc] σ σ':=by
 refine aP (fP.o _ _) fP.h ?_
 unfold fP
 dsimp only
 obtain⟨h0,h1,hpl,hrd,hne⟩:=hr
 have l0:=hW.lt h0
 have l1:=hW.lt h1
 simp(disch:=try exact jz) only[go_sem,z3,au h0,au h1,h0,h1,hrd,hpl]
 refine⟨⟨?_,?_,hpl,hrd,hne⟩,?_⟩
 .rw[ak _ _ _ _ hne,ak _ _ _ _ jb,h0]
  unfold VL
  rw[ab jb,cV]
 .rw[aA]
  congr 2
  refine dR λi _=>?_
  unfold VL aN
  by_cases e:i=k
  .rw[ae e,ae jb,e]
  .rw[ab e,ab jb,cV]
 .repeat(first|assumption|exact aU.refl (by assumption)|exact aU.up (by assumption) kf|exact aU.up (aU.refl (by assumption)) kf|refine aU.set1 ?_ kg kf|refine aU.lU ?_ kg|refine aU.oD ?_ kg|refine aU.pG ?_ kf)
def aqm{σ:St}(hW:WF σ){rb bc n:Nat}{o:Option (Nat×Nat)}{c:Cap}{f:Int->Rat}(hr:sU σ.h rb bc n o c f)(q:Rat)(hq:Sz q)(k:Int)(hz:Sz (f k))(hk:k=-1\/(0<=k/\k<n)):
  aC EN 186 [.c (.ptr rb 0),.c (.int .i64 k),.agg [.bool (rn q),.str (rs q),.str (rd q)]] σ λ_ σ'=>sU σ'.h rb bc n o c (VL f k q)/\aU [rb,bc] σ σ':=by
 rcases hk with rfl|⟨h1,h2⟩
 .exact aw7 hW hr q hq hz
 .obtain⟨j,rfl⟩:=ck h1
  exact aw8 hW hr q hq j hz jb
theorem sU.fr{σ σ':St}{rb bc n:Nat}{o:Option (Nat×Nat)}{c:Cap}{f:Int->Rat}(hW:WF σ)(hf:Fr σ σ')(hr:sU σ.h rb bc n o c f):sU σ'.h rb bc n o c f:=
 ⟨hf.get hW hr.r,hf.get hW hr.c,hr.pl,hr.rd,hr.ne⟩
def u1:1<=256^uK:=dj jj
def afP(t:dJ)(p:Int×Rat)(c:Int):gB (t++[p]) c=gB t c+if c=p.1 then p.2 else 0:=by
 induction t with
 |nil=>
  show(if p.1=c then p.2 else 0)+0=0+if c=p.1 then p.2 else 0
  by_cases h:p.1=c
  .rw[ae h,ae h.symm];grind
  .rw[ab h,ab (Ne.symm h)]
 |cons r t ih=>
  show(if r.1=c then r.2 else 0)+gB (t++[p]) c=(if r.1=c then r.2 else 0)+gB t c+_
  rw[ih];grind
def shF(f:Int->Rat)(t:dJ)(u:Rat)(c:Int):Rat:=f c+gB t c*u
def adz(f:Int->Rat)(u:Rat):shF f [] u=f:=by funext c;show f c+0*u=f c;grind
def YL(f:Int->Rat)(t:dJ)(p:Int×Rat)(u:Rat):VL (shF f t u) p.1 (p.2*u)=shF f (t++[p]) u:=by funext c;unfold VL shF;rw[afP];split<;>grind
theorem take_snoc{α:Type}[Inhabited α]{t:List α}{j:Nat}(h:j<t.length):t.take (j+1)=t.take j++[ix t j]:=by rw[bU h]
theorem gJ{α:Type}[Inhabited α]{t:List α}{j:Nat}(h:j<t.length):ix t j∈t:=by rw[dS h];exact List.getElem_mem h
def adA{σ0 σ:St}(hW0:WF σ0)(hf:Fr σ0 σ){rb bc n:Nat}{o:Option (Nat×Nat)}{c:Cap}{f:Int->Rat}(hrb:σ0.aj<=rb)(hbc:σ0.aj<=bc)(hr:sU σ.h rb bc n o c f)
  (t:dJ) (G:B) (hG:HL σ0.h 4 G t.length λj=>AZ (ix t j)) (x:Rat) (hx:Sz x) (hs:Sz (aW t)) (h0:aW t≠0) (hqz:Sz (x/aW t)){D k:Nat}(hD:CS D) (hZ:∀c,Zk D k (f c))
  (hp:∀p∈t,(p.1=-1\/(0<=p.1/\p.1<n))/\Sz p.2/\Zk D 1 (p.2*(x/aW t))) (hk:k+t.length<=256^uK) (hn:t.length<=1000000):
  aC EN 187 [.c (.ptr rb 0),.agg (kF G (aW t)),.agg [.bool (rn x),.str (rs x),.str (rd x)]] σ λ_ σ'=>sU σ'.h rb bc n o c (shF f t (x/aW t))/\(∀c,Zk D (k+t.length) (shF f t (x/aW t) c))/\aU [rb,bc] σ σ':=by
 refine aP (lC.o _ _) lC.h ?_
 unfold lC kF
 dsimp only
 have l0:=hf.wf.lt hr.r
 have l1:=hf.wf.lt hr.c
 have hlen:=hG.len
 have hkn:=hG.kn
 have hu:IB x (aW t)=x/aW t:=by unfold IB;rw[ab h0]
 generalize x/aW t=u at*
 have hW:=hf.wf
 simp(disch:=try exact jz) only[go_sem,z3,hlen,hu,hkn]
 refine bM.st (Fr σ) (fr) λhF=>?_
 refine aF (λm tm σ'=>∃j,m=t.length-j/\j<=t.length/\Tr.ah tm 0=.c (.ptr rb 0)/\Tr.ah tm 6=.c (.ptr (σ.aj+1+1) 0)/\Tr.ah tm 18=.c G/\Tr.ah tm 19=.c (.int .i64 (.ofNat t.length))/\Tr.ah tm 20=.c (.int .i64 (.ofNat j))
  /\σ'.h (σ.aj+1+1)=some ⟨[.bool (rn u),.str (rs u),.str (rd u)],none⟩/\sU σ'.h rb bc n o c (shF f (t.take j) u)/\(∀c,Zk D (k+j) (shF f (t.take j) u c))/\aU [rb,bc] σ σ'/\σ.aj+3<=σ'.aj) t.length ?_ ?_
 .refine⟨0,jb,jb,?_⟩
  simp(disch:=try exact jz) only[go_sem,z3,am,cH,adz]
  exact⟨hr.fr hf.wf hF,hZ,hF.ex _,jb⟩
 .rintro m tm σ' ⟨j,rfl,hj,t0,t6,qc,t19,t20,hq,hr',hZ',hf',hnx⟩
  simp(disch:=try exact jz) only[go_sem,z3,t0,t6,qc,t19,t20]
  refine aH (λhlt=>?_) (λhlt=>?_)
  .obtain⟨b,o',c',rfl,hld⟩:=hG.pos jb
   have hld:=hld j hlt
   have hb0:=hW0.dw hld
   have hld:=hf'.ld hf.wf (by simp;omega) (hf.ld hW0 hld)
   have hpp:=hp _ (gJ hlt)
   unfold AZ at hld
   have hb:=hf'.wf.dw hld
   have hsn:=YL f (t.take j) (ix t j) u
   rw[<-take_snoc hlt]at hsn
   generalize ix t j=p at*
   obtain⟨hp1,hp2,hp3⟩:=hpp
   simp(disch:=try exact jz) only[go_sem,z3,t0,t6,qc,t19,t20,hld,au hq]
   refine aC.st (Fr σ') (by have hW':=hf'.wf;exact fr) λhF=>?_
   refine(aqm hF.wf (hr'.fr hf'.wf hF) _ (hp3.sz hD u1) _ ((hZ' _).sz hD (ap jb hk)) hp1).mono ?_
   rintro _ σ2 ⟨hr2,hf2⟩
   have hf3:aU [rb,bc] σ' σ2:=aU.trans (hF.ex _) hf2
   have hl2:σ'.aj+1<=σ2.aj:=hf2.le
   have hle:=hf'.le
   simp(disch:=try exact jz) only[go_sem,z3,t0,t6,qc,t19,t20]
   refine⟨t.length-(j+1),jb,j+1,rfl,jb,rfl,hf3.get hf'.wf (by simp;omega) hq,hsn▸hr2,λc=>?_,hf'.trans hf3,jb⟩
   rw[<-hsn]
   refine(hZ' c).add (l:=1) ?_
   split
   .exact hp3
   .exact Zk.zero
  .have:j=t.length:=jb
   subst this
   rw[cB]at hr' hZ'
   simp(disch:=try exact jz) only[go_sem,z3,t0,t6,qc,t19,t20]
   exact⟨hr',hZ',hf'⟩
def jO:gu->Int->Rat
 |[],_=>0
 |t::l,c=>gB t c+jO l c
def dH:gu->Nat
 |[]=>0
 |t::l=>t.length+dH l
def Fa(l:gu)(t:dJ)(c:Int):jO (l++[t]) c=jO l c+gB t c:=by
 induction l with
 |nil=>show gB t c+0=0+gB t c;grind
 |cons u l ih=>show gB u c+jO (l++[t]) c=gB u c+jO l c+gB t c;rw[ih];grind
def PE(l:gu)(t:dJ):dH (l++[t])=dH l+t.length:=by
 induction l with
 |nil=>show t.length+0=0+t.length;omega
 |cons u l ih=>show u.length+dH (l++[t])=u.length+dH l+t.length;rw[ih];omega
def PG(l:gu):∀j,dH (l.take j)<=dH l:=by
 induction l with
 |nil=>intro j;simp
 |cons u l ih=>
  intro j
  cases j with
  |zero=>simp[dH]
  |succ j=>rw[fj];have:=ih j;unfold dH;omega
def PI(l:gu){j:Nat}(h:j<l.length):dH (l.take j)+(ix l j).length<=dH l:=by rw[<-PE,<-take_snoc h];exact PG _ _
theorem Pq(l:gu):∀m,dQ l m<=l.length:=by
 induction l with
 |nil=>intro m;exact cM 0
 |cons t l ih=>intro m;unfold dQ;have:=ih (m-aW t);rw[bB];split<;>omega
def VN{α:Type}[Inhabited α](a:α)(l:List α):ix (a::l) 0=a:=rfl
def Na{α:Type}[Inhabited α](a:α)(l:List α)(j:Nat):ix (a::l) (j+1)=ix l j:=rfl
def J7(l:gu)(c:Int):∀m,iw l m c=jO (l.take (dQ l m)) c+if dQ l m<l.length then gB (ix l (dQ l m)) c*(jM l m/aW (ix l (dQ l m)))else 0:=by
 induction l with
 |nil=>intro m;show(0:Rat)=0+_;simp;grind
 |cons t l ih=>
  intro m
  unfold iw dQ jM
  by_cases h:m<aW t
  .simp only[ae h]
   rw[ae kc,VN]
   show _=0+_
   grind
  .simp only[ab h]
   rw[ih,fj,Na]
   simp only[bB,Nat.add_lt_add_iff_right]
   show _=gB t c+jO _ c+_
   grind
def Fb(l:gu)(c:Int)(r:Rat):∀m,kC l m r c=if dQ l m<l.length then gB (ix l (dQ l m)) c*(r/aW (ix l (dQ l m)))else 0:=by
 induction l with
 |nil=>intro m;rfl
 |cons t l ih=>
  intro m
  unfold kC dQ
  by_cases h:m<aW t
  .simp only[ae h]
   rw[ae kc,VN]
  .simp only[ab h]
   rw[ih,Na]
   simp only[bB,Nat.add_lt_add_iff_right]
def afQ(l:gu):∀m,nJ l m=if dQ l m<l.length then some (aW (ix l (dQ l m))-jM l m)else none:=by
 induction l with
 |nil=>intro m;rfl
 |cons t l ih=>
  intro m
  unfold nJ dQ jM
  by_cases h:m<aW t
  .simp only[ae h]
   rw[ae kc,VN]
  .simp only[ab h]
   rw[ih,Na]
   simp only[bB,Nat.add_lt_add_iff_right]
theorem VO(l:gu):∀m,0<=m->0<=jM l m/\(dQ l m<l.length->jM l m<aW (ix l (dQ l m))):=by
 induction l with
 |nil=>intro m h;exact⟨h,λh=>by simp[dQ]at h⟩
 |cons t l ih=>
  intro m h
  unfold dQ jM
  by_cases h2:m<aW t
  .simp only[ae h2];exact⟨h,λ_=>h2⟩
  .simp only[ab h2]
   obtain⟨a,b⟩:=ih (m-aW t) kd
   exact⟨a,λh=>by rw[Na];exact b (by simp only[bB]at h;omega)⟩
theorem PK(l:gu):∀m,jM l m=m-CW l (dQ l m):=by
 induction l with
 |nil=>intro m;show m=m-0;grind
 |cons t l ih=>
  intro m
  unfold dQ jM
  by_cases h:m<aW t
  .simp only[ae h];show m=m-0;grind
  .simp only[ab h]
   rw[ih]
   show _=m-(aW t+CW l _)
   grind
structure PL(D n:Nat)(l:gu):Prop where
 len:l.length<=1000000
 tl:∀t∈l,t.length<=1000000
 st:∀t∈l,Sz (aW t)
 id:∀t∈l,∀p∈t,p.1=-1\/(0<=p.1/\p.1<n)
 sp:∀t∈l,∀p∈t,Sz p.2
 zp:∀t∈l,∀p∈t,Zk D 1 p.2
structure PN(D:Nat)(l:gu)(m x:Rat):Prop where
 cum:∀k,k<=l.length->Sz (m-CW l k)
 nn:0<=m
 sx:Sz x
 q:dQ l m<l.length->Sz (x/aW (ix l (dQ l m)))
 z:dQ l m<l.length->∀p∈ix l (dQ l m),Zk D 1 (p.2*(x/aW (ix l (dQ l m))))
def PN.ne{D:Nat}{l:gu}{m x:Rat}(h:PN D l m x)(hf:dQ l m<l.length):aW (ix l (dQ l m))≠0:=by have h1:=VO l m h.nn;have h2:=h1.2 hf;intro e;rw[e]at h2;have:=h1.1;grind
def I8.tier{h:Tr Bk}{v:B}{l:gu}(hl:I8 h v l){j:Nat}(hj:j<l.length):∃b o c G,v=.sl b o l.length c/\ld h b (o+j*4) 4 true=some (.agg (kF G (aW (ix l j))))/\HL h 4 G (ix l j).length (λi=>AZ (ix (ix l j) i))/\b<0+b+1:=by obtain⟨G,hG,-,hP⟩:=hl;obtain⟨b,o,c,e,hld⟩:=hG.pos jb;exact⟨b,o,c,G j,e,hld j hj,hP j hj,jb⟩
def adB{σ0 σ:St}(hW0:WF σ0)(hf:Fr σ0 σ){rb bc n:Nat}{o:Option (Nat×Nat)}{c:Cap}{f:Int->Rat}(hrb:σ0.aj<=rb)(hbc:σ0.aj<=bc)(hr:sU σ.h rb bc n o c f)
  (l:gu) (v:B) (hL:I8 σ0.h v l) (m x:Rat){D k:Nat}(hD:CS D) (hl:PL D n l) (hs:PN D l m x) (hm:Sz m) (hZ:∀c,Zk D k (f c)) (hk:k+dH l<=256^uK):
  aC EN 160 [.c v,.agg [.bool (rn m),.str (rs m),.str (rd m)],.agg [.bool (rn x),.str (rs x),.str (rd x)],.c (.ptr rb 0)] σ λ_ σ'=>sU σ'.h rb bc n o c (λc=>f c+kC l m x c)/\(∀c,Zk D (k+dH l) (f c+kC l m x c))/\aU [rb,bc] σ σ':=by
 refine aP (kX.o _ _) kX.h ?_
 unfold kX
 dsimp only
 have l0:=hf.wf.lt hr.r
 have l1:=hf.wf.lt hr.c
 have hlen:=hL.choose_spec.1.len
 simp(disch:=try exact jz) only[go_sem,z3,hlen]
 have hF:=Fr.new (Fr.new (Fr.refl hf.wf) ⟨[.bool (rn m),.str (rs m),.str (rd m)],none⟩) ⟨[.bool (rn x),.str (rs x),.str (rd x)],none⟩
 refine(VK l v m _ hF.wf (hL.fr hW0 (hf.trans hF)) (λi hi=>hl.st _ (gJ hi)) hs.cum hl.len).mono ?_
 rintro _ σ2 ⟨rfl,hf2⟩
 have hF2:=hF.trans hf2
 have hp2:σ2.h (σ.aj+1)=some ⟨[.bool (rn x),.str (rs x),.str (rd x)],none⟩:=hf2.get hF.wf (aA _ _ _)
 have hl2:σ.aj+1+1<=σ2.aj:=hf2.le
 simp(disch:=try exact jz) only[go_sem,z3,hlen]
 refine aH (λhlt=>?_) (λhlt=>?_)
 .obtain⟨b,o',c',G,rfl,hld,hP,-⟩:=hL.tier hlt
  have hb0:=hW0.dw hld
  have hld:=hF2.ld hf.wf (hf.ld hW0 hld)
  unfold kF at hld
  have hb:=hF2.wf.dw hld
  have Ls:=gJ hlt
  simp(disch:=try exact jz) only[go_sem,z3,hld,au hp2,hP.kn]
  refine aC.st (Fr σ2) (by have hW2:=hF2.wf;exact fr) λhF3=>?_
  have jB:=hF2.trans hF3
  have hnp:=PI l hlt
  refine(adA hW0 (hf.trans jB) hrb hbc (hr.fr hf.wf jB) (ix l (dQ l m)) G hP x hs.sx (hl.st _ Ls) (hs.ne hlt) (hs.q hlt) hD hZ (λp hp=>⟨hl.id _ Ls p hp,hl.sp _ Ls p hp,hs.z hlt p hp⟩) (ap jb hk) (hl.tl _ Ls)).mono ?_
  rintro _ σ4 ⟨hr4,hZ4,hf4⟩
  have e:shF f (ix l (dQ l m)) (x/aW (ix l (dQ l m)))=λc=>f c+kC l m x c:=by funext c;rw[Fb,ae hlt];rfl
  rw[e]at hr4 hZ4
  simp(disch:=try exact jz) only[go_sem,z3]
  exact⟨hr4,λc=>(hZ4 c).mono jb,(jB.ex _).trans hf4⟩
 .have e:(λc=>f c+kC l m x c)=f:=by funext c;rw[Fb,ab hlt,cV]
  have e2:∀c,f c+kC l m x c=f c:=λc=>bR e c
  simp(disch:=try exact jz) only[go_sem,z3,e,e2]
  have hr2:=hr.fr hf.wf hF2
  have b0:=hF2.wf.lt hr2.r
  have b1:=hF2.wf.lt hr2.c
  refine⟨hr2.set2 jb jb,λc=>(hZ c).mono jb,Fr.ex (by have hW2:=hF2.wf;exact fr) _⟩
def aqn{σ:St}(hW:WF σ)(l:gu)(v:B)(hL:I8 σ.h v l)(m:Rat)(hl:l.length<=1000000)(hst:∀t∈l,Sz (aW t))(hs:∀k,k<=l.length->Sz (m-CW l k)):
  aC EN 223 [.c v,.agg [.bool (rn m),.str (rs m),.str (rd m)]] σ λr σ'=>r=(match nJ l m with|some g=>.aZ (.agg [.bool (rn g),.str (rs g),.str (rd g)]) (.aZ (.c (.bool true)) .tnil)|none=>.aZ (.agg [.bool (rn 0),.str (rs 0),.str (rd 0)]) (.aZ (.c (.bool false)) .tnil))/\Fr σ σ':=by
 refine aP (nC.o _ _) nC.h ?_
 unfold nC
 dsimp only
 have hlen:=hL.choose_spec.1.len
 simp(disch:=try exact jz) only[go_sem,z3,hlen]
 have hF:=Fr.new (Fr.new (Fr.refl hW) ⟨[.bool (rn m),.str (rs m),.str (rd m)],none⟩) ⟨[.bool (rn 0),.str (rs 0),.str (rd 0)],none⟩
 refine(VK l v m _ hF.wf (hL.fr hW hF) (λi hi=>hst _ (gJ hi)) hs hl).mono ?_
 rintro _ σ2 ⟨rfl,hf2⟩
 have hF2:=hF.trans hf2
 have hp2:σ2.h (σ.aj+1)=some ⟨[.bool (rn 0),.str (rs 0),.str (rd 0)],none⟩:=hf2.get hF.wf (aA _ _ _)
 have hl2:σ.aj+1+1<=σ2.aj:=hf2.le
 have hfl:=Pq l m
 rw[afQ]
 simp(disch:=try exact jz) only[go_sem,z3,hlen]
 refine aH (λhlt=>?_) (λhlt=>?_)
 .rw[ab jb]
  simp(disch:=try exact jz) only[go_sem,z3,au hp2,aI hp2,hp2]
  exact fr
 .have hlt:dQ l m<l.length:=jb
  rw[ae hlt]
  obtain⟨b,o',c',G,rfl,hld,hP,-⟩:=hL.tier hlt
  have hld:=hF2.ld hW hld
  unfold kF at hld
  have hb:=hF2.wf.dw hld
  have Ls:=hst _ (gJ hlt)
  have hlm:Sz (jM l m):=by rw[PK];exact hs _ hfl
  simp(disch:=try exact jz) only[go_sem,z3,hld,yc hld,au hp2,aI hp2,hp2]
  exact fr
def J8(f:Int->Rat)(l:gu)(c:Int):Rat:=f c+jO l c
def ajz(f:Int->Rat):J8 f []=f:=by funext c;show f c+0=f c;grind
def afR(f:Int->Rat)(l:gu)(t:dJ):shF (J8 f l) t 1=J8 f (l++[t]):=by funext c;unfold shF J8;rw[Fa];grind
def aqo{σ0 σ:St}(hW0:WF σ0)(hf:Fr σ0 σ){rb bc n:Nat}{o:Option (Nat×Nat)}{c:Cap}{f:Int->Rat}(hrb:σ0.aj<=rb)(hbc:σ0.aj<=bc)(hr:sU σ.h rb bc n o c f)
  (l:gu) (v:B) (hL:I8 σ0.h v l) (m:Rat){D k:Nat}(hD:CS D) (hl:PL D n l) (hs:PN D l m (jM l m)) (hm:Sz m) (hZ:∀c,Zk D k (f c)) (hk:k+dH l<=256^uK) (hpos:0<l.length):
  aC EN 145 [.c v,.agg [.bool (rn m),.str (rs m),.str (rd m)],.c (.ptr rb 0)] σ λ_ σ'=>sU σ'.h rb bc n o c (λc=>f c+iw l m c)/\(∀c,Zk D (k+dH l) (f c+iw l m c))/\aU [rb,bc] σ σ':=by
 refine aP (mY.o _ _) mY.h ?_
 unfold mY
 dsimp only
 have l0:=hf.wf.lt hr.r
 have l1:=hf.wf.lt hr.c
 have hlen:=hL.choose_spec.1.len
 simp(disch:=try exact jz) only[go_sem,z3,hlen]
 have hF:=Fr.new (Fr.refl hf.wf) ⟨[.bool (rn m),.str (rs m),.str (rd m)],none⟩
 refine(VK l v m _ hF.wf (hL.fr hW0 (hf.trans hF)) (λi hi=>hl.st _ (gJ hi)) hs.cum hl.len).mono ?_
 rintro _ σ2 ⟨rfl,hf2⟩
 have hF2:=hF.trans hf2
 have hl2:σ.aj+1<=σ2.aj:=hf2.le
 have hfl:=Pq l m
 have hll:=hl.len
 obtain⟨G,hG,hcap,hP⟩:=hL
 obtain⟨b,o',c0,rfl,sV⟩:=hG.pos hpos
 obtain⟨v',hv',-,⟨h0,-⟩|⟨b2,o2,c2,c',h2,rfl⟩⟩:=asz hcap (.inr ⟨b,o',c0,rfl,hpos⟩) hfl 4
 .omega
 cases h2
 simp(disch:=try exact jz) only[go_sem,z3,hlen,hv']
 refine bM.st (Fr σ2) (by have hW2:=hF2.wf;exact fr) λhF3=>?_
 have jB:=hF2.trans hF3
 refine aF (λq tm σ'=>∃j,q=dQ l m-j/\j<=dQ l m/\Tr.ah tm 0=.c (.sl b o' l.length c0)/\Tr.ah tm 2=.c (.ptr rb 0)/\Tr.ah tm 6=.c (.int .i64 (.ofNat (dQ l m)))/\Tr.ah tm 7=.c (.ptr σ2.aj 0)
  /\Tr.ah tm 20=.c (.sl b o' (dQ l m) c')/\Tr.ah tm 21=.c (.int .i64 (.ofNat (dQ l m)))/\Tr.ah tm 22=.c (.int .i64 (.ofNat j))
  /\σ'.h σ2.aj=some ⟨[.bool (rn (jM l m)),.str (rs (jM l m)),.str (rd (jM l m))],none⟩/\sU σ'.h rb bc n o c (J8 f (l.take j))/\(∀c,Zk D (k+dH (l.take j)) (J8 f (l.take j) c))/\aU [rb,bc] σ σ'/\σ2.aj+1<=σ'.aj) (dQ l m) ?_ ?_
 .refine⟨0,jb,jb,?_⟩
  simp(disch:=try exact jz) only[go_sem,z3,am,cH,ajz]
  exact⟨hr.fr hf.wf jB,λc=>(hZ c).mono jb,jB.ex _,jp⟩
 .rintro q tm σ' ⟨j,rfl,hj,t0,t2,t6,t7,t20,t21,t22,hq,hr',hZ',hf',hnx⟩
  simp(disch:=try exact jz) only[go_sem,z3,t0,t2,t6,t7,t20,t21,t22]
  refine aH (λhlt=>?_) (λhlt=>?_)
  .have hjl:j<l.length:=jb
   have Ls:=gJ hjl
   have Fe:=hP j hjl
   have htl:=hl.tl _ Ls
   have hpl:=Fe.len
   have afD:=sV j hjl
   have hb0:=hW0.dw afD
   have hld:=hf'.ld hf.wf (by simp;omega) (hf.ld hW0 afD)
   unfold kF at hld
   have hb:=hf'.wf.dw hld
   simp(disch:=try exact jz) only[go_sem,z3,t0,t2,t6,t7,t20,t21,t22,hld,Fe.kn,hpl]
   refine bM.st (Fr σ') (by have hW2:=hf'.wf;exact fr) λfZ=>?_
   refine aF (λq tm σ3=>∃i,q=(ix l j).length-i/\i<=(ix l j).length/\Tr.ah tm 0=.c (.sl b o' l.length c0)/\Tr.ah tm 2=.c (.ptr rb 0)/\Tr.ah tm 6=.c (.int .i64 (.ofNat (dQ l m)))/\Tr.ah tm 7=.c (.ptr σ2.aj 0)
    /\Tr.ah tm 20=.c (.sl b o' (dQ l m) c')/\Tr.ah tm 21=.c (.int .i64 (.ofNat (dQ l m)))/\Tr.ah tm 22=.c (.int .i64 (.ofNat j))/\Tr.ah tm 27=.c (G j)/\Tr.ah tm 28=.c (.int .i64 (.ofNat (ix l j).length))/\Tr.ah tm 29=.c (.int .i64 (.ofNat i))
    /\sU σ3.h rb bc n o c (shF (J8 f (l.take j)) ((ix l j).take i) 1)/\(∀c,Zk D (k+dH (l.take j)+i) (shF (J8 f (l.take j)) ((ix l j).take i) 1 c))/\aU [rb,bc] σ' σ3) (ix l j).length ?_ ?_
   .refine⟨0,jb,jb,?_⟩
    simp(disch:=try exact jz) only[go_sem,z3,t0,t2,t6,t7,t20,t21,t22,am,cH,adz]
    exact⟨hr'.fr hf'.wf fZ,hZ',fZ.ex _⟩
   .rintro q Xv σ3 ⟨i,rfl,hi,t0,t2,t6,t7,t20,t21,t22,t27,t28,t29,hr3,hZ3,hf3⟩
    simp(disch:=try exact jz) only[go_sem,z3,t0,t2,t6,t7,t20,t21,t22,t27,t28,t29]
    refine aH (λhli=>?_) (λhli=>?_)
    .obtain⟨b3,o3,c3,e3,uP⟩:=Fe.pos jb
     rw[e3]at t27
     have uP:=uP i hli
     have hb3:=hW0.dw uP
     have hlx:=(hf'.trans hf3).ld hf.wf (by simp;omega) (hf.ld hW0 uP)
     unfold AZ at hlx
     have hb4:=hf3.wf.dw hlx
     have hsn:=YL (J8 f (l.take j)) ((ix l j).take i) (ix (ix l j) i) 1
     rw[<-take_snoc hli,Rat.mul_one]at hsn
     have hpm:=gJ hli
     have hid:=hl.id _ Ls _ hpm
     have hsp:=hl.sp _ Ls _ hpm
     have hzp:=hl.zp _ Ls _ hpm
     have hnp:=PI l hjl
     generalize ix (ix l j) i=p at*
     simp(disch:=try exact jz) only[go_sem,z3,t0,t2,t6,t7,t20,t21,t22,t27,t28,t29,hlx]
     refine aC.st (Fr σ3) (by have hW2:=hf3.wf;exact fr) λjI=>?_
     refine(aqm jI.wf (hr3.fr hf3.wf jI) _ hsp _ ((hZ3 _).sz hD (ap jb hk)) hid).mono ?_
     rintro _ σ5 ⟨hr5,hf5⟩
     rw[hsn]at hr5
     simp(disch:=try exact jz) only[go_sem,z3,t0,t2,t6,t7,t20,t21,t22,t27,t28,t29]
     refine⟨(ix l j).length-(i+1),jb,i+1,rfl,jb,e3.symm▸rfl,rfl,hr5,λc=>?_,hf3.trans ((jI.ex _).trans hf5)⟩
     rw[<-hsn]
     refine(hZ3 c).add (l:=1) ?_
     split
     .exact hzp
     .exact Zk.zero
    .have:i=(ix l j).length:=jb
     subst this
     rw[cB,afR,<-take_snoc hjl]at hr3 hZ3
     have hnp:=PE (l.take j) (ix l j)
     rw[<-take_snoc hjl]at hnp
     have hfx:=hf3.le
     have hqx:=hf3.get hf'.wf (show¬σ2.aj∈[rb,bc] by simp;omega) hq
     simp(disch:=try exact jz) only[go_sem,z3,t0,t2,t6,t7,t20,t21,t22,t27,t28,t29]
     exact⟨dQ l m-(j+1),jb,j+1,rfl,jb,rfl,hqx,hr3,λc=>(hZ3 c).mono jb,hf'.trans hf3,jb⟩
  .have:j=dQ l m:=jb
   subst this
   simp(disch:=try exact jz) only[go_sem,z3,t0,t2,t6,t7,t20,t21,t22]
   refine aH (λhlf=>?_) (λhlf=>?_)
   .have Ls:=gJ hlf
    have afD:=sV _ hlf
    have hb0:=hW0.dw afD
    have hld:=hf'.ld hf.wf (by simp;omega) (hf.ld hW0 afD)
    unfold kF at hld
    have hb:=hf'.wf.dw hld
    have hnp:=PI l hlf
    simp(disch:=try exact jz) only[go_sem,z3,t0,t2,t6,t7,t20,t21,t22,hld,au hq,(hP _ hlf).kn]
    refine(adA hW0 (hf'.to hf (by simp;omega)) hrb hbc hr' (ix l (dQ l m)) (G (dQ l m)) (hP _ hlf) (jM l m) hs.sx (hl.st _ Ls) (hs.ne hlf) (hs.q hlf) hD hZ' (λp hp=>⟨hl.id _ Ls p hp,hl.sp _ Ls p hp,hs.z hlf p hp⟩) (ap jb hk) (hl.tl _ Ls)).mono ?_
    rintro _ σ4 ⟨hr4,hZ4,hf5⟩
    have e:shF (J8 f (l.take (dQ l m))) (ix l (dQ l m)) (jM l m/aW (ix l (dQ l m)))=λc=>f c+iw l m c:=by funext c;rw[J7,ae hlf];unfold shF J8;grind
    rw[e]at hr4 hZ4
    simp(disch:=try exact jz) only[go_sem,z3]
    exact⟨hr4,λc=>(hZ4 c).mono jb,hf'.trans hf5⟩
   .have e:J8 f (l.take (dQ l m))=λc=>f c+iw l m c:=by funext c;rw[J7,ab hlf];unfold J8;grind
    have hnp:=PG l (dQ l m)
    rw[e]at hr' hZ'
    simp(disch:=try exact jz) only[go_sem,z3]
    exact⟨hr',λc=>(hZ' c).mono jb,hf'⟩
theorem nN{α:Type}(l:List α)(a:α)(f:α->Rat):aJ (l++[a]) f=aJ l f+f a:=by
 induction l with
 |nil=>show f a+0=0+f a;grind
 |cons b l ih=>show f b+aJ (l++[a]) f=f b+aJ l f+f a;rw[ih];grind
def VP{α:Type}{D k:Nat}{f:α->Rat}:∀{l:List α},(∀a∈l,Zk D k (f a))->Zk D (k*l.length) (aJ l f)
 |[],_=>Zk.zero
 |a::l,h=>by have:=(h a kc).add (VP (l:=l) λb hb=>h b (by simp[hb]));rw[bB,Nat.mul_succ,eM];exact this
def ajA{α:Type}{l:List α}{a:α}{j:Nat}(h:a∈l.take j):a∈l:=eo h
def Ri(ms:List Nat)(i:Nat):B:=.int .i64 (.ofNat (ix ms i))
def I9{σ:St}(hW:WF σ){n:Nat}(ms:List Nat)(mv lv rv:B)(f:Nat->Rat)(hm:HC σ.h mv ms.length (Ri ms))(hv:HL σ.h 3 rv n λi=>dY (f i))(hms:∀i∈ms,i<n)(hl:ms.length<=1000000)
  {D k:Nat}(hD:CS D) (hZ:∀i,i<n->Zk D k (f i)) (hk:k*(ms.length+1)<=256^uK):
  aC EN 146 [.agg [mv,lv],.c rv] σ λr σ'=>r=.agg [.bool (rn (aJ ms f)),.str (rs (aJ ms f)),.str (rd (aJ ms f))]/\Fr σ σ':=by
 refine aP (mZ.o _ _) mZ.h ?_
 unfold mZ
 dsimp only
 have hlen:=hm.len
 simp(disch:=try exact jz) only[go_sem,z3,hlen,hm.kn]
 refine bM.st (Fr σ) (fr) λhF=>?_
 refine aF (λq tm σ'=>∃j,q=ms.length-j/\j<=ms.length/\Tr.ah tm 1=.c rv/\Tr.ah tm 4=.c (.ptr (σ.aj+1) 0)/\Tr.ah tm 5=.c (.ptr (σ.aj+1+1) 0)/\Tr.ah tm 10=.c mv/\Tr.ah tm 11=.c (.int .i64 (.ofNat ms.length))/\Tr.ah tm 12=.c (.int .i64 (.ofNat j))
  /\σ'.h (σ.aj+1)=some ⟨[.bool (rn 0),.str (rs 0),.str (rd 0)],none⟩/\σ'.h (σ.aj+1+1)=some ⟨[.bool (rn (aJ (ms.take j) f)),.str (rs (aJ (ms.take j) f)),.str (rd (aJ (ms.take j) f))],none⟩/\Fr σ σ'/\σ.aj+3<=σ'.aj) ms.length ?_ ?_
 .refine⟨0,jb,jb,?_⟩
  simp(disch:=try exact jz) only[go_sem,z3,am,cH,show aJ ([]:List Nat) f=0 from rfl]
  exact⟨hF,jb⟩
 .rintro q tm σ' ⟨j,rfl,hj,t1,t4,t5,t10,t11,t12,hq1,hq2,hf',hnx⟩
  simp(disch:=try exact jz) only[go_sem,z3,t1,t4,t5,t10,t11,t12]
  refine aH (λhlt=>?_) (λhlt=>?_)
  .obtain⟨b,o,c,rfl,hld⟩:=hm.pos jb
   have hld:=hf'.ld hW (hld j hlt)
   have hn:=hms _ (gJ hlt)
   obtain⟨b2,o2,c2,rfl,yR⟩:=hv.pos jb
   have yR:=hf'.ld hW (yR _ hn)
   have hb2:=hf'.wf.dw yR
   unfold Ri at hld
   unfold dY at yR
   have hsn:=nN (ms.take j) (ix ms j) f
   rw[<-take_snoc hlt]at hsn
   have hz1:Sz (f (ix ms j)):=(hZ _ hn).sz hD (ap (fT _ jb) hk)
   have hz2:Sz (aJ (ms.take j) f):=(VP λa ha=>hZ a (hms a (ajA ha))).sz hD (ap (cn _ (by rw[di];omega)) hk)
   simp(disch:=try exact jz) only[go_sem,z3,t1,t4,t5,t10,t11,t12,hld,yR,au hq2,hq1,hq2,aI hq2,<-hsn]
   refine⟨ms.length-(j+1),jb,j+1,rfl,jb,rfl,rfl,?_,jb⟩
   exact fr
  .have:j=ms.length:=jb
   subst this
   rw[cB]at hq2
   simp(disch:=try exact jz) only[go_sem,z3,t1,t4,t5,t10,t11,t12,au hq2,hq1,aI hq1]
   exact fr
structure J9(h:Tr Bk)(rv pv:B)(e:fA):Prop where
 rk:I8 h rv e.rk
 ps:∃Gm Gl:Nat->B,HL h 2 pv e.ps.length (λi=>[Gm i,Gl i])/\∀i,i<e.ps.length->HC h (Gm i) (ix e.ps i).1.length (Ri (ix e.ps i).1)/\I8 h (Gl i) (ix e.ps i).2
theorem J9.fr{σ σ':St}(hW:WF σ)(hf:Fr σ σ'){rv pv:B}{e:fA}(h:J9 σ.h rv pv e):J9 σ'.h rv pv e:=by obtain⟨h1,Gm,Gl,h2,h3⟩:=h;exact⟨h1.fr hW hf,Gm,Gl,h2.fr hW hf,λi hi=>⟨(h3 i hi).1.fr hW hf,(h3 i hi).2.fr hW hf⟩⟩
def jJ(n:Nat)(rv pv:B)(t:Rat):List B:=[.int .i64 (.ofNat n),rv,pv,.bool (rn t),.str (rs t),.str (rd t)]
def I8.kn{h:Tr Bk}{v:B}{l:gu}(hl:I8 h v l):v.kn=true:=hl.choose_spec.1.kn
def J9.WY{h:Tr Bk}{rv pv:B}{e:fA}(hl:J9 h rv pv e):pv.kn=true:=by obtain⟨_,Gm,Gl,h2,h3⟩:=hl;exact h2.kn
structure aw9(σ σ':St)(r:V)(n:Nat)(f:Nat->Rat)(b:Nat):Prop where
 r:r=.c (.sl b 0 n (.ex n))
 c:σ'.h b=some ⟨cO n f,none⟩
 b:σ.aj<=b
def Nb{σ:St}(hW:WF σ){n:Nat}{rv pv:B}(t:Rat)(e:fA)(hL:J9 σ.h rv pv e)(m:Rat){D:Nat}(hD:CS D)(hn:n<=1000000)(hl:PL D n e.rk)(hs:PN D e.rk m (jM e.rk m))(hm:Sz m)(hk:dH e.rk<=256^uK)(hpos:0<e.rk.length):
  aC EN 89 [.agg (jJ n rv pv t),.agg [.bool (rn m),.str (rs m),.str (rd m)]] σ λr σ'=>(∃b,aw9 σ σ' r n (λi=>Ae e m i) b)/\(∀i:Nat,Zk D (dH e.rk) (Ae e m i))/\Fr σ σ':=by
 refine aP (kM.o _ _) kM.h ?_
 unfold kM jJ
 dsimp only
 simp(disch:=try exact jz) only[go_sem,z3,hL.rk.kn]
 refine aC.st (Fr σ) (fr) λhF=>?_
 refine(aqo (f:=λ_=>0) (k:=0) hW hF jb jb ⟨aA _ _ _,(ak _ _ _ _ jb).trans (aA _ _ _),rfl,rfl,jb⟩ e.rk rv hL.rk m hD hl hs hm (λ_=>Zk.zero) jb hpos).mono ?_
 rintro _ σ2 ⟨hr2,hZ2,hf2⟩
 have hz:(λc=>(0:Rat)+iw e.rk m c)=iw e.rk m:=by funext c;grind
 have hz2:∀c,(0:Rat)+iw e.rk m c=iw e.rk m c:=λc=>by grind
 rw[hz]at hr2
 simp only[hz2,cK]at hZ2
 have h5:=hr2.r
 simp(disch:=try exact jz) only[go_sem,z3,au h5]
 exact⟨⟨_,rfl,hr2.c,jb⟩,λi=>hZ2 i,hf2.to hF (by simp;omega)⟩
def adE{σ:St}(hW:WF σ){n:Nat}{rv pv:B}(t:Rat)(e:fA)(hL:J9 σ.h rv pv e)(m:Rat){D:Nat}(hD:CS D)(hn:n<=1000000)(hl:PL D n e.rk)(hs:PN D e.rk m 1)(hm:Sz m)(hk:dH e.rk<=256^uK):
  aC EN 159 [.agg (jJ n rv pv t),.agg [.bool (rn m),.str (rs m),.str (rd m)]] σ λr σ'=>(∃b,aw9 σ σ' r n (λi=>rts e m i) b)/\(∀i:Nat,Zk D (dH e.rk) (rts e m i))/\Fr σ σ':=by
 refine aP (kU.o _ _) kU.h ?_
 unfold kU jJ
 dsimp only
 simp(disch:=try exact jz) only[go_sem,z3,hL.rk.kn]
 refine aC.st (Fr σ) (fr) λhF=>?_
 refine(adB (f:=λ_=>0) (k:=0) hW hF jb jb ⟨aA _ _ _,(ak _ _ _ _ jb).trans (aA _ _ _),rfl,rfl,jb⟩ e.rk rv hL.rk m 1 hD hl hs hm (λ_=>Zk.zero) jb).mono ?_
 rintro _ σ2 ⟨hr2,hZ2,hf2⟩
 have hz:(λc=>(0:Rat)+kC e.rk m 1 c)=kC e.rk m 1:=by funext c;grind
 have hz2:∀c,(0:Rat)+kC e.rk m 1 c=kC e.rk m 1 c:=λc=>by grind
 rw[hz]at hr2
 simp only[hz2,cK]at hZ2
 have h5:=hr2.r
 simp(disch:=try exact jz) only[go_sem,z3,au h5]
 exact⟨⟨_,rfl,hr2.c,jb⟩,λi=>hZ2 i,hf2.to hF (by simp;omega)⟩
def adF{σ:St}(hW:WF σ){n b:Nat}{c:Cap}{f:Nat->Rat}(hb:σ.h b=some ⟨cO n f,none⟩)(hn:n<=1000000):
  aC EN 87 [.c (.sl b 0 n c)] σ λr σ'=>(∃b' c' o',r=.c (.sl b' 0 n c')/\σ'.h b'=some ⟨cO n f,o'⟩/\plo o'=true/\ZP o'=true/\σ.aj<=b'/\b'<σ'.aj)/\Fr σ σ':=by
 refine aP (iJ.o _ _) iJ.h ?_
 unfold iJ
 dsimp only
 have hbl:=hW.lt hb
 by_cases h0:n=0
 .subst h0
  simp(disch:=try exact jz) only[go_sem,z3,hb]
  refine⟨⟨σ.aj,_,none,rfl,aA _ _ _,rfl,rfl,jp,bO _⟩,?_⟩
  exact fr
 .simp(disch:=try exact jz) only[go_sem,z3,hb]
  refine⟨⟨σ.aj+1,_,_,rfl,aA _ _ _,rfl,rfl,jb,bO _⟩,?_⟩
  exact fr
def zF(l:List Nat)(f:Nat->Rat):Int->Rat:=λi=>if 0<=i then(if l.contains i.toNat then 0 else f i.toNat)else 0
def PO(l:List Nat)(f:Nat->Rat):zF l f (-1)=0:=ab jb
def VQ(l:List Nat)(f:Nat->Rat)(i:Nat):zF l f i=if l.contains i then 0 else f i:=by unfold zF;rw[ae jb,gh]
def aon(l:List Nat)(f:Nat->Rat)(k n:Nat):cO n (aN (λi=>zF l f i) k 0)=cO n λi=>zF (l++[k]) f i:=by
 refine dR λi _=>?_;show(if i=k then 0 else zF l f i)=_;rw[VQ,VQ,List.contains_append];by_cases h:i=k
 .subst h;simp
 .rw[ab h];simp[h]
def flat(ps:List (List Nat×gu)):List Nat:=ps.flatMap λp=>p.1
def afS(ps:List (List Nat×gu))(p:List Nat×gu):flat (ps++[p])=flat ps++p.1:=by unfold flat;simp
def La(e:fA)(c:Nat):(flat e.ps).contains c=pooled e c:=by
 unfold flat pooled;induction e.ps with
 |nil=>rfl
 |cons p l ih=>rw[gj,List.contains_append,List.any_cons,ih]
def ajB{σ:St}(hW:WF σ){n b:Nat}{rv pv:B}(t:Rat)(e:fA)(hL:J9 σ.h rv pv e){f:Nat->Rat}(hb:σ.h b=some ⟨cO n f,none⟩){c:Cap}(hn:n<=1000000)(hp:e.ps.length<=1000000)(hm:∀p∈e.ps,p.1.length<=1000000/\∀i∈p.1,i<n):
  aC EN 144 [.agg (jJ n rv pv t),.c (.sl b 0 n c)] σ λr σ'=>(∃rb bc o c',r=.c (.ptr rb 0)/\sU σ'.h rb bc n o c' (zF (flat e.ps) f)/\σ.aj<=rb/\σ.aj<=bc)/\Fr σ σ':=by
 refine aP (lX.o _ _) lX.h ?_
 unfold lX jJ
 dsimp only
 simp(disch:=try exact jz) only[go_sem,z3]
 refine aC.st (Fr σ) (fr) λhF=>?_
 refine(adF hF.wf (hF.get hW hb) hn).mono ?_
 rintro _ σ2 ⟨⟨bc,c',o,rfl,h2,hpl,hrd,hbc,hbc2⟩,hf2⟩
 have hF2:=hF.trans hf2
 obtain⟨-,Gm,Gl,hG,hP⟩:=hL
 have hlen:=hG.len
 have hbox:σ2.h σ.aj=some ⟨[.int .i64 (.ofNat n),rv,pv,.bool (rn t),.str (rs t),.str (rd t)],none⟩:=hf2.get hF.wf (aA _ _ _)
 have hl2:σ.aj+1<=σ2.aj:=hf2.le
 have hbc:σ.aj+1<=bc:=hbc
 simp(disch:=try exact jz) only[go_sem,z3,au hbox,hlen,hG.kn]
 refine aF (λq tm σ'=>∃j,q=e.ps.length-j/\j<=e.ps.length/\Tr.ah tm 5=.c (.ptr σ2.aj 0)/\Tr.ah tm 15=.c pv/\Tr.ah tm 16=.c (.int .i64 (.ofNat e.ps.length))/\Tr.ah tm 17=.c (.int .i64 (.ofNat j))
  /\sU σ'.h σ2.aj bc n o c' (zF (flat (e.ps.take j)) f)/\Fr σ σ'/\σ2.aj+1<=σ'.aj) e.ps.length ?_ ?_
 .refine⟨0,jb,jb,?_⟩
  simp(disch:=try exact jz) only[go_sem,z3,am,cH]
  refine⟨⟨?_,?_,hpl,hrd,jb⟩,?_,jp⟩
  .rw[aA,PO]
  .rw[ak _ _ _ _ jb,h2]
   congr 2
  .exact fr
 .rintro q tm σ' ⟨j,rfl,hj,t5,t15,t16,t17,hr,hf',hnx⟩
  simp(disch:=try exact jz) only[go_sem,z3,t5,t15,t16,t17]
  refine aH (λhlt=>?_) (λhlt=>?_)
  .obtain⟨b2,o2,c2,rfl,hld⟩:=hG.pos jb
   have hld:=hf'.ld hW (hld j hlt)
   have hb2:=hf'.wf.dw hld
   have Fe:=hP j hlt
   have hpl2:=Fe.1.len
   have hmj:=hm _ (gJ hlt)
   have hfs:=afS (e.ps.take j) (ix e.ps j)
   rw[<-take_snoc hlt]at hfs
   generalize ix e.ps j=p at*
   simp(disch:=try exact jz) only[go_sem,z3,t5,t15,t16,t17,hld,Fe.1.kn,Fe.2.kn,hpl2]
   refine bM.st (Fr σ') (by have hW2:=hf'.wf;exact fr) λfZ=>?_
   refine aF (λq tm σ3=>∃i,q=p.1.length-i/\i<=p.1.length/\Tr.ah tm 5=.c (.ptr σ2.aj 0)/\Tr.ah tm 15=.c (.sl b2 o2 e.ps.length c2)/\Tr.ah tm 16=.c (.int .i64 (.ofNat e.ps.length))/\Tr.ah tm 17=.c (.int .i64 (.ofNat j))
    /\Tr.ah tm 22=.c (Gm j)/\Tr.ah tm 23=.c (.int .i64 (.ofNat p.1.length))/\Tr.ah tm 24=.c (.int .i64 (.ofNat i))
    /\sU σ3.h σ2.aj bc n o c' (zF (flat (e.ps.take j)++p.1.take i) f)/\Fr σ σ3/\σ2.aj+1<=σ3.aj) p.1.length ?_ ?_
   .refine⟨0,jb,jb,?_⟩
    simp(disch:=try exact jz) only[go_sem,z3,t5,t15,t16,t17,am,cH,dt]
    exact⟨hr.fr hf'.wf fZ,hf'.trans fZ,jb⟩
   .rintro q Xv σ3 ⟨i,rfl,hi,t5,t15,t16,t17,t22,t23,t24,hr3,hf3,hn3⟩
    simp(disch:=try exact jz) only[go_sem,z3,t5,t15,t16,t17,t22,t23,t24]
    refine aH (λhli=>?_) (λhli=>?_)
    .obtain⟨b3,o3,c3,e3,uP⟩:=Fe.1.pos jb
     rw[e3]at t22
     have uP:=hf3.ld hW (uP i hli)
     unfold Ri at uP
     have hin:=hmj.2 _ (gJ hli)
     have hzs:=aon (flat (e.ps.take j)++p.1.take i) f (ix p.1 i) n
     rw[ii,<-take_snoc hli]at hzs
     have axa:=hr3.r
     have axb:=hr3.c
     have hb3:=hf3.wf.lt axb
     simp(disch:=try exact jz) only[go_sem,z3,t5,t15,t16,t17,t22,t23,t24,uP,au axa,aI axb,hpl,hzs]
     refine⟨p.1.length-(i+1),jb,i+1,rfl,jb,e3.symm▸rfl,rfl,⟨?_,aA _ _ _,hpl,hrd,jb⟩,?_,jb⟩
     .rw[ak _ _ _ _ jb,axa,PO,PO]
     .exact fr
    .have:i=p.1.length:=jb
     subst this
     rw[cB,<-hfs]at hr3
     simp(disch:=try exact jz) only[go_sem,z3,t5,t15,t16,t17,t22,t23,t24]
     exact⟨e.ps.length-(j+1),jb,j+1,rfl,jb,rfl,hr3,hf3,jb⟩
  .have:j=e.ps.length:=jb
   subst this
   rw[cB]at hr
   simp(disch:=try exact jz) only[go_sem,z3,t5,t15,t16,t17]
   exact⟨⟨_,_,_,_,rfl,hr,jb,jb⟩,hf'⟩
end Go.Proofs.Xe
