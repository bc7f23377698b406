/- dZ: anX, aoJ. -/
import Derived.Test.YtjonjhcaniinaaaGreatDoorZ27
set_option linter.unusedSimpArgs false
set_option linter.unusedVariables false
namespace Go.Proofs.Xe
open Go.RowKit Go.Proofs.Ins
def wz (p:Int×Rat):List B:=[.int .i64 p.1,.bool (rn p.2),.str (rs p.2),.str (rd p.2)]
def jr (ps:B) (s:Rat):List B:=[ps,.bool (rn s),.str (rs s),.str (rd s)]
def JJ (h:Tr Bk) (v:B) (l:iH):Prop :=
 ∃ G:Nat→B,HL h 4 v l.length (fun i=>jr (G i) (aU (ix l i)))∧afR v∧∀ i,i<l.length→HL h 4 (G i) (ix l i).length fun j=>wz (ix (ix l i) j)
theorem JJ.fr {σ σ' : St} (hW:WF σ) (hf:Fr σ σ') {v:B} {l:iH} (h:JJ σ.h v l):JJ σ'.h v l:=by
 obtain ⟨G,h1,h2,h3⟩:=h
 exact ⟨G,h1.fr hW hf,h2,fun i hi=>(h3 i hi).fr hW hf⟩
def jk:iH→Rat→Rat
 | [],m=>m
 | t::l,m=>if m<aU t then m else jk l (m - aU t)
def xQ (l:iH) (k:Nat):Rat:=rE (l.take k)
theorem aoH (a b c:Rat):a - b - c=a - (b+c):=by grind
theorem La {l:iH} {j:Nat} (h:j<l.length):xQ l (j+1)=xQ l j+aU (ix l j):=by
 unfold xQ
 rw [bD h]
 generalize l.take j=p
 induction p with
 | nil=>show aU (ix l j)+rE []=rE []+_;unfold rE;grind
 | cons t p ih=>show aU t+rE (p ++ [ix l j])=aU t+rE p+_;rw [ih];grind
theorem NU {α:Type} [Inhabited α] {l:List α} {j:Nat} (h:j<l.length):l.drop j=ix l j::l.drop (j+1):=by
 rw [List.drop_eq_getElem_cons h,dV h]
set_option maxRecDepth 10000 in
theorem agy (l:iH) (v:B) (m:Rat) (σ:St) (hW:WF σ) (hL:JJ σ.h v l) (hs : ∀ i,i<l.length→Sz (aU (ix l i))) (hm : ∀ k,k≤l.length→Sz (m - xQ l k)) (hn:l.length≤1000000) :
  aT EN 129 [.c v,.agg [.bool (rn m),.str (rs m),.str (rd m)]] σ fun r σ'=>r = .bZ (.c (.int .i64 (.ofNat (fF l m)))) (.bZ (.agg [.bool (rn (jk l m)),.str (rs (jk l m)),.str (rd (jk l m))]) .tnil)∧Fr σ σ':=by
 refine dh (jc.o _ _) jc.h ?_
 unfold jc
 dsimp only
 obtain ⟨G,hG,-,hP⟩:=hL
 have hlen:=hG.len
 simp (maxSteps:=9^9) (disch:=first|assumption|decide|omega) only [go_sem,z3,hlen]
 refine aP (fun k tm σ'=>∃ j x,k=l.length - j∧j≤l.length∧Tr.aj tm 0 = .c v∧Tr.aj tm 8 = .c v∧Tr.aj tm 9 = .c (.int .i64 (.ofNat l.length))∧Tr.aj tm 10 = .c (.int .i64 (.ofNat j))∧Tr.aj tm 3 = .c (.ptr σ.ah 0)∧Tr.aj tm 5 = .c (.ptr (σ.ah+1) 0)
  ∧ σ'.h σ.ah=some ⟨[.bool (rn x),.str (rs x),.str (rd x)],none⟩∧σ'.h (σ.ah+1)=some ⟨[.bool (rn 0),.str (rs 0),.str (rd 0)],none⟩∧Fr σ σ'∧σ.ah+2≤σ'.ah∧x=m - xQ l j∧fF l m=j+fF (l.drop j) x∧jk l m=jk (l.drop j) x) l.length ?_ ?_
 ·refine ⟨0,m,by omega,by omega,?_⟩
  have hF:Fr σ ⟨hset (hset σ.h σ.ah ⟨[.bool (rn m),.str (rs m),.str (rd m)],none⟩) (σ.ah+1) ⟨[.bool (rn 0),.str (rs 0),.str (rd 0)],none⟩,σ.ah+1+1⟩:=((Fr.refl hW).new _).new _
  simp (maxSteps:=9^9) (disch:=first|assumption|decide|omega) only [go_sem,z3,true_and,List.drop_zero]
  refine ⟨hF,by omega,?_⟩
  unfold xQ rE;simp;grind
 ·rintro k tm σ' ⟨j,x,rfl,hj,t0,t8,t9,t10,t3,t5,h0,h1,hf,hnx,hx,Zt,UY⟩
  simp (maxSteps:=9^9) (disch:=first|assumption|decide|omega) only [go_sem,z3,t0,t8,t9,t10,t3,t5]
  refine aK (fun hlt=>?_) (fun hlt=>?_)
  ·obtain ⟨b,o,c,rfl,hld⟩:=hG.pos (by omega)
   have hld:=hf.ld hW (hld j hlt)
   unfold jr at hld
   have hb:=hf.wf.iK hld
   have hsz:=hs j hlt
   have hxz:Sz x:=hx ▸ hm j hj
   have hdr:=NU hlt
   have hmz:=hm (j+1) hlt
   rw [La hlt] at hmz
   rw [hdr,fF] at Zt
   rw [hdr,jk] at UY
   generalize hts:aU (ix l j)=s at *
   have hxs:Sz (x - s):=by rw [hx];rwa [show m - xQ l j - s=m - (xQ l j+s) by grind]
   simp (maxSteps:=9^9) (disch:=first|assumption|decide|omega) only [go_sem,z3,t0,t8,t9,t10,t3,t5,hld,aA h0,show Int.ofNat 0=0 from rfl]
   refine aK (fun hxl=>?_) (fun hxl=>?_)
   ·simp (maxSteps:=9^9) (disch:=first|assumption|decide|omega) only [go_sem,z3,t0,t8,t9,t10,t3,t5,aA h0,h0,h1]
    rw [Zt,UY,if_pos hxl,if_pos hxl]
    refine ⟨rfl,?_⟩
    exact fr
   ·simp (maxSteps:=9^9) (disch:=first|assumption|decide|omega) only [go_sem,z3,t0,t8,t9,t10,t3,t5,aA h0,h0,h1]
    rw [if_neg hxl] at Zt UY
    refine ⟨l.length - (j+1),by omega,j+1,x - s,rfl,by omega,rfl,rfl,?_,by omega,by rw [La hlt,hx,hts];exact aoH _ _ _,by omega,UY⟩
    exact fr
  ·have:j=l.length:=by omega
   subst this
   simp only [List.drop_length] at Zt UY
   rw [fF] at Zt
   rw [jk] at UY
   simp (maxSteps:=9^9) (disch:=first|assumption|decide|omega) only [go_sem,z3,t0,t8,t9,t10,t3,t5,aA h0,bP h1,hlen]
   rw [Zt,UY]
   refine ⟨rfl,?_⟩
   exact fr
structure uG (h:Tr Bk) (rb bc n:Nat) (o:Option (Nat×Nat)) (c:Cap) (f:Int→Rat):Prop where
 r:h rb=some ⟨[.sl bc 0 n c,.bool (rn (f (-1))),.str (rs (f (-1))),.str (rd (f (-1)))],none⟩
 c:h bc=some ⟨eP n fun i=>f i,o⟩
 pl:plo o=true
 rd:rdo o=true
 ne:rb≠bc
def NV (f:Int→Rat) (k:Int) (q:Rat):Int→Rat:=fun c=>f c+if c=k then q else 0
set_option maxRecDepth 10000 in
theorem ana {σ:St} (hW:WF σ) {rb bc n:Nat} {o:Option (Nat×Nat)} {c:Cap} {f:Int→Rat} (hr:uG σ.h rb bc n o c f) (q:Rat) (hq:Sz q) (hz:Sz (f (-1))) :
  aT EN 130 [.c (.ptr rb 0),.c (.int .i64 (.negSucc 0)),.agg [.bool (rn q),.str (rs q),.str (rd q)]] σ fun _ σ'=>uG σ'.h rb bc n o c (NV f (-1) q)∧fG [rb,bc] σ σ':=by
 refine dh (dY.o _ _) dY.h ?_
 unfold dY
 dsimp only
 obtain ⟨h0,h1,hpl,hrd,hne⟩:=hr
 have l0:=hW.lt h0
 have l1:=hW.lt h1
 simp (maxSteps:=9^9) (disch:=first|assumption|decide|omega) only [go_sem,z3,aA h0,h0]
 refine ⟨⟨?_,?_,hpl,hrd,hne⟩,?_⟩
 ·rw [au];simp [NV]
 ·rw [ak _ _ _ _ hne.symm,ak _ _ _ _ (by omega),h1,gW]
  intro i _
  unfold NV
  rw [if_neg (by omega)];grind
 ·repeat (first|assumption|exact fG.refl (by assumption)|exact fG.up (by assumption) (by first|omega|(dsimp only;omega))|exact fG.up (fG.refl (by assumption)) (by first|omega|(dsimp only;omega))|refine fG.set1 ?_ (by first|(left;omega)|(left;dsimp only;omega)|(right;simp)) (by first|omega|(dsimp only;omega))|refine fG.yN ?_ (by first|(left;omega)|(left;dsimp only;omega)|(right;simp))|refine fG.Ik ?_ (by first|(left;omega)|(left;dsimp only;omega)|(right;simp))|refine fG.ND ?_ (by first|omega|(dsimp only;omega)))
set_option maxRecDepth 10000 in
theorem anb {σ:St} (hW:WF σ) {rb bc n:Nat} {o:Option (Nat×Nat)} {c:Cap} {f:Int→Rat} (hr:uG σ.h rb bc n o c f) (q:Rat) (hq:Sz q) (k:Nat) (hz:Sz (f k)) (hk:k<n) :
  aT EN 130 [.c (.ptr rb 0),.c (.int .i64 (.ofNat k)),.agg [.bool (rn q),.str (rs q),.str (rd q)]] σ fun _ σ'=>uG σ'.h rb bc n o c (NV f k q)∧fG [rb,bc] σ σ':=by
 refine dh (dY.o _ _) dY.h ?_
 unfold dY
 dsimp only
 obtain ⟨h0,h1,hpl,hrd,hne⟩:=hr
 have l0:=hW.lt h0
 have l1:=hW.lt h1
 simp (maxSteps:=9^9) (disch:=first|assumption|decide|omega) only [go_sem,z3,aA h0,aA h1,h0,h1,hrd,hpl]
 refine ⟨⟨?_,?_,hpl,hrd,hne⟩,?_⟩
 ·rw [ak _ _ _ _ hne,ak _ _ _ _ (by omega),h0]
  unfold NV
  rw [if_neg (by omega),Rat.add_zero]
 ·rw [au]
  congr 2
  refine gW fun i _=>?_
  unfold NV aI
  by_cases e:i=k
  ·rw [if_pos e,if_pos (by omega),e]
  ·rw [if_neg e,if_neg (by omega),Rat.add_zero]
 ·repeat (first|assumption|exact fG.refl (by assumption)|exact fG.up (by assumption) (by first|omega|(dsimp only;omega))|exact fG.up (fG.refl (by assumption)) (by first|omega|(dsimp only;omega))|refine fG.set1 ?_ (by first|(left;omega)|(left;dsimp only;omega)|(right;simp)) (by first|omega|(dsimp only;omega))|refine fG.yN ?_ (by first|(left;omega)|(left;dsimp only;omega)|(right;simp))|refine fG.Ik ?_ (by first|(left;omega)|(left;dsimp only;omega)|(right;simp))|refine fG.ND ?_ (by first|omega|(dsimp only;omega)))
theorem ahK {σ:St} (hW:WF σ) {rb bc n:Nat} {o:Option (Nat×Nat)} {c:Cap} {f:Int→Rat} (hr:uG σ.h rb bc n o c f) (q:Rat) (hq:Sz q) (k:Int) (hz:Sz (f k)) (hk:k = -1∨(0≤k∧k<n)) :
  aT EN 130 [.c (.ptr rb 0),.c (.int .i64 k),.agg [.bool (rn q),.str (rs q),.str (rd q)]] σ fun _ σ'=>uG σ'.h rb bc n o c (NV f k q)∧fG [rb,bc] σ σ':=by
 rcases hk with rfl|⟨h1,h2⟩
 ·exact ana hW hr q hq hz
 ·obtain ⟨j,rfl⟩:=Int.eq_ofNat_of_zero_le h1
  exact anb hW hr q hq j hz (by omega)
theorem uG.fr {σ σ' : St} {rb bc n:Nat} {o:Option (Nat×Nat)} {c:Cap} {f:Int→Rat} (hW:WF σ) (hf:Fr σ σ') (hr:uG σ.h rb bc n o c f):uG σ'.h rb bc n o c f :=
 ⟨hf.get hW hr.r,hf.get hW hr.c,hr.pl,hr.rd,hr.ne⟩
theorem u1:1≤256 ^ uK:=Nat.pow_pos (by decide)
theorem Zu (t:dA) (p:Int×Rat) (c:Int):jR (t ++ [p]) c=jR t c+if c=p.1 then p.2 else 0:=by
 induction t with
 | nil =>
  show (if p.1=c then p.2 else 0)+0=0+if c=p.1 then p.2 else 0
  by_cases h:p.1=c
  ·rw [if_pos h,if_pos h.symm];grind
  ·rw [if_neg h,if_neg (Ne.symm h)]
 | cons r t ih =>
  show (if r.1=c then r.2 else 0)+jR (t ++ [p]) c=(if r.1=c then r.2 else 0)+jR t c+_
  rw [ih];grind
def Xa (f:Int→Rat) (t:dA) (u:Rat) (c:Int):Rat:=f c+jR t c*u
theorem Xb (f:Int→Rat) (u:Rat):Xa f [] u=f:=by
 funext c
 show f c+0*u=f c
 grind
theorem QC (f:Int→Rat) (t:dA) (p:Int×Rat) (u:Rat):NV (Xa f t u) p.1 (p.2*u)=Xa f (t ++ [p]) u:=by
 funext c
 unfold NV Xa
 rw [Zu]
 split <;> grind
theorem take_snoc {α:Type} [Inhabited α] {t:List α} {j:Nat} (h:j<t.length):t.take (j+1)=t.take j ++ [ix t j]:=by rw [bD h]
theorem je {α:Type} [Inhabited α] {t:List α} {j:Nat} (h:j<t.length):ix t j∈t:=by
 rw [dV h];exact List.getElem_mem h
set_option maxRecDepth 10000 in
theorem agz {σ0 σ:St} (hW0:WF σ0) (hf:Fr σ0 σ) {rb bc n:Nat} {o:Option (Nat×Nat)} {c:Cap} {f:Int→Rat} (hrb:σ0.ah≤rb) (hbc:σ0.ah≤bc) (hr:uG σ.h rb bc n o c f)
  (t:dA) (G:B) (hG:HL σ0.h 4 G t.length fun j=>wz (ix t j)) (x:Rat) (hx:Sz x) (hs:Sz (aU t)) (h0:aU t≠0) (hqz:Sz (x/aU t)) {D k:Nat} (hD:Eb D) (hZ : ∀ c,Zk D k (f c))
  (hp : ∀ p∈t,(p.1 = -1∨(0≤p.1∧p.1<n))∧Sz p.2∧Zk D 1 (p.2*(x/aU t))) (hk:k+t.length≤256 ^ uK) (hn:t.length≤1000000) :
  aT EN 131 [.c (.ptr rb 0),.agg (jr G (aU t)),.agg [.bool (rn x),.str (rs x),.str (rd x)]] σ fun _ σ'=>uG σ'.h rb bc n o c (Xa f t (x/aU t))∧(∀ c,Zk D (k+t.length) (Xa f t (x/aU t) c))∧fG [rb,bc] σ σ':=by
 refine dh (jd.o _ _) jd.h ?_
 unfold jd jr
 dsimp only
 have l0:=hf.wf.lt hr.r
 have l1:=hf.wf.lt hr.c
 have hlen:=hG.len
 have hkn:=hG.kn
 have hu:vF x (aU t)=x/aU t:=by unfold vF;rw [if_neg h0]
 generalize x/aU t=u at *
 have hW:=hf.wf
 simp (maxSteps:=9^9) (disch:=first|assumption|decide|omega) only [go_sem,z3,hlen,hu,hkn]
 refine bY.st (Fr σ) (fr) fun hF=>?_
 refine aP (fun m tm σ'=>∃ j,m=t.length - j∧j≤t.length∧Tr.aj tm 0 = .c (.ptr rb 0)∧Tr.aj tm 6 = .c (.ptr (σ.ah+1+1) 0)∧Tr.aj tm 18 = .c G∧Tr.aj tm 19 = .c (.int .i64 (.ofNat t.length))∧Tr.aj tm 20 = .c (.int .i64 (.ofNat j))
  ∧ σ'.h (σ.ah+1+1)=some ⟨[.bool (rn u),.str (rs u),.str (rd u)],none⟩∧uG σ'.h rb bc n o c (Xa f (t.take j) u)∧(∀ c,Zk D (k+j) (Xa f (t.take j) u c))∧fG [rb,bc] σ σ'∧σ.ah+3≤σ'.ah) t.length ?_ ?_
 ·refine ⟨0,by omega,by omega,?_⟩
  simp (maxSteps:=9^9) (disch:=first|assumption|decide|omega) only [go_sem,z3,true_and,List.take_zero,Xb]
  exact ⟨hr.fr hf.wf hF,hZ,hF.ex _,by omega⟩
 ·rintro m tm σ' ⟨j,rfl,hj,t0,t6,yO,t19,t20,hq,hr',hZ',hf',hnx⟩
  simp (maxSteps:=9^9) (disch:=first|assumption|decide|omega) only [go_sem,z3,t0,t6,yO,t19,t20]
  refine aK (fun hlt=>?_) (fun hlt=>?_)
  ·obtain ⟨b,o',c',rfl,hld⟩:=hG.pos (by omega)
   have hld:=hld j hlt
   have hb0:=hW0.iK hld
   have hld:=hf'.ld hf.wf (by simp;omega) (hf.ld hW0 hld)
   have hpp:=hp _ (je hlt)
   unfold wz at hld
   have hb:=hf'.wf.iK hld
   have hsn:=QC f (t.take j) (ix t j) u
   rw [← take_snoc hlt] at hsn
   generalize ix t j=p at *
   obtain ⟨hp1,hp2,hp3⟩:=hpp
   simp (maxSteps:=9^9) (disch:=first|assumption|decide|omega) only [go_sem,z3,t0,t6,yO,t19,t20,hld,aA hq]
   refine aT.st (Fr σ') (by have hW':=hf'.wf;exact fr) fun hF=>?_
   refine (ahK hF.wf (hr'.fr hf'.wf hF) _ (hp3.sz hD u1) _ ((hZ' _).sz hD (Nat.le_trans (by omega) hk)) hp1).mono ?_
   rintro _ σ2 ⟨hr2,hf2⟩
   have hf3:fG [rb,bc] σ' σ2:=fG.trans (hF.ex _) hf2
   have hl2:σ'.ah+1≤σ2.ah:=hf2.le
   have hle:=hf'.le
   simp (maxSteps:=9^9) (disch:=first|assumption|decide|omega) only [go_sem,z3,t0,t6,yO,t19,t20]
   refine ⟨t.length - (j+1),by omega,j+1,rfl,by omega,rfl,hf3.get hf'.wf (by simp;omega) hq,hsn ▸ hr2,fun c=>?_,hf'.trans hf3,by omega⟩
   rw [← hsn]
   refine (hZ' c).add (l:=1) ?_
   split
   ·exact hp3
   ·exact Zk.zero
  ·have:j=t.length:=by omega
   subst this
   rw [List.take_length] at hr' hZ'
   simp (maxSteps:=9^9) (disch:=first|assumption|decide|omega) only [go_sem,z3,t0,t6,yO,t19,t20]
   exact ⟨hr',hZ',hf'⟩
def Bz : iH→Int→Rat
 | [],_=>0
 | t::l,c=>jR t c+Bz l c
def dO:iH→Nat
 | []=>0
 | t::l=>t.length+dO l
theorem Zv (l:iH) (t:dA) (c:Int):Bz (l ++ [t]) c=Bz l c+jR t c:=by
 induction l with
 | nil=>show jR t c+0=0+jR t c;grind
 | cons u l ih=>show jR u c+Bz (l ++ [t]) c=jR u c+Bz l c+jR t c;rw [ih];grind
theorem IG (l:iH) (t:dA):dO (l ++ [t])=dO l+t.length:=by
 induction l with
 | nil=>show t.length+0=0+t.length;omega
 | cons u l ih=>show u.length+dO (l ++ [t])=u.length+dO l+t.length;rw [ih];omega
theorem II (l:iH) : ∀ j,dO (l.take j)≤dO l:=by
 induction l with
 | nil=>intro j;simp
 | cons u l ih =>
  intro j
  cases j with
  | zero=>simp [dO]
  | succ j=>rw [List.take_succ_cons];have:=ih j;unfold dO;omega
theorem QD (l:iH) {j:Nat} (h:j<l.length):dO (l.take j)+(ix l j).length≤dO l:=by
 rw [← IG,← take_snoc h];exact II _ _
theorem acW (l:iH) : ∀ m,fF l m≤l.length:=by
 induction l with
 | nil=>intro m;exact Nat.le_refl 0
 | cons t l ih=>intro m;unfold fF;have:=ih (m - aU t);rw [List.length_cons];split <;> omega
theorem agA {α:Type} [Inhabited α] (a:α) (l:List α):ix (a::l) 0=a:=rfl
theorem Xc {α:Type} [Inhabited α] (a:α) (l:List α) (j:Nat):ix (a::l) (j+1)=ix l j:=rfl
theorem Dx (l:iH) (c:Int) : ∀ m,gB l m c=Bz (l.take (fF l m)) c+if fF l m<l.length then jR (ix l (fF l m)) c*(jk l m/aU (ix l (fF l m))) else 0:=by
 induction l with
 | nil=>intro m;show (0:Rat)=0+_;simp;grind
 | cons t l ih =>
  intro m
  unfold gB fF jk
  by_cases h:m<aU t
  ·simp only [if_pos h]
   rw [if_pos (by simp),agA]
   show _=0+_
   grind
  ·simp only [if_neg h]
   rw [ih,List.take_succ_cons,Xc]
   simp only [List.length_cons,Nat.add_lt_add_iff_right]
   show _=jR t c+Bz _ c+_
   grind
theorem NW (l:iH) : ∀ m,0≤m→0≤jk l m∧(fF l m<l.length→jk l m<aU (ix l (fF l m))):=by
 induction l with
 | nil=>intro m h;exact ⟨h,fun h=>by simp [fF] at h⟩
 | cons t l ih =>
  intro m h
  unfold fF jk
  by_cases h2:m<aU t
  ·simp only [if_pos h2];exact ⟨h,fun _=>h2⟩
  ·simp only [if_neg h2]
   obtain ⟨a,b⟩:=ih (m - aU t) (by grind)
   exact ⟨a,fun h=>by rw [Xc];exact b (by simp only [List.length_cons] at h;omega)⟩
theorem QE (l:iH) : ∀ m,jk l m=m - xQ l (fF l m):=by
 induction l with
 | nil=>intro m;show m=m - 0;grind
 | cons t l ih =>
  intro m
  unfold fF jk
  by_cases h:m<aU t
  ·simp only [if_pos h];show m=m - 0;grind
  ·simp only [if_neg h]
   rw [ih]
   show _=m - (aU t+xQ l _)
   grind
structure QF (D n:Nat) (l:iH):Prop where
 len:l.length≤1000000
 tl : ∀ t∈l,t.length≤1000000
 st : ∀ t∈l,Sz (aU t)
 id : ∀ t∈l,∀ p∈t,p.1 = -1∨(0≤p.1∧p.1<n)
 sp : ∀ t∈l,∀ p∈t,Sz p.2
 zp : ∀ t∈l,∀ p∈t,Zk D 1 p.2
structure NY (D:Nat) (l:iH) (m x:Rat):Prop where
 cum : ∀ k,k≤l.length→Sz (m - xQ l k)
 nn:0≤m
 sx:Sz x
 q:fF l m<l.length→Sz (x/aU (ix l (fF l m)))
 z:fF l m<l.length→∀ p∈ix l (fF l m),Zk D 1 (p.2*(x/aU (ix l (fF l m))))
theorem NY.ne {D:Nat} {l:iH} {m x:Rat} (h:NY D l m x) (hf:fF l m<l.length):aU (ix l (fF l m))≠0:=by
 have h1:=NW l m h.nn
 have h2:=h1.2 hf
 intro e
 rw [e] at h2
 have:=h1.1
 grind
def Dy (f:Int→Rat) (l:iH) (c:Int):Rat:=f c+Bz l c
theorem ac2 (f:Int→Rat):Dy f []=f:=by
 funext c
 show f c+0=f c
 grind
theorem Zw (f:Int→Rat) (l:iH) (t:dA):Xa (Dy f l) t 1=Dy f (l ++ [t]):=by
 funext c
 unfold Xa Dy
 rw [Zv];grind
set_option maxRecDepth 10000 in
theorem ahL {σ0 σ:St} (hW0:WF σ0) (hf:Fr σ0 σ) {rb bc n:Nat} {o:Option (Nat×Nat)} {c:Cap} {f:Int→Rat} (hrb:σ0.ah≤rb) (hbc:σ0.ah≤bc) (hr:uG σ.h rb bc n o c f)
  (l:iH) (v:B) (hL:JJ σ0.h v l) (m:Rat) {D k:Nat} (hD:Eb D) (hl:QF D n l) (hs:NY D l m (jk l m)) (hm:Sz m) (hZ : ∀ c,Zk D k (f c)) (hk:k+dO l≤256 ^ uK) (hpos:0<l.length) :
  aT EN 95 [.c v,.agg [.bool (rn m),.str (rs m),.str (rd m)],.c (.ptr rb 0)] σ fun _ σ'=>uG σ'.h rb bc n o c (fun c=>f c+gB l m c)∧(∀ c,Zk D (k+dO l) (f c+gB l m c))∧fG [rb,bc] σ σ':=by
 refine dh (jB.o _ _) jB.h ?_
 unfold jB
 dsimp only
 have l0:=hf.wf.lt hr.r
 have l1:=hf.wf.lt hr.c
 have hlen:=hL.choose_spec.1.len
 simp (maxSteps:=9^9) (disch:=first|assumption|decide|omega) only [go_sem,z3,hlen]
 have hF:=Fr.new (Fr.refl hf.wf) ⟨[.bool (rn m),.str (rs m),.str (rd m)],none⟩
 refine (agy l v m _ hF.wf (hL.fr hW0 (hf.trans hF)) (fun i hi=>hl.st _ (je hi)) hs.cum hl.len).mono ?_
 rintro _ σ2 ⟨rfl,hf2⟩
 have hF2:=hF.trans hf2
 have hl2:σ.ah+1≤σ2.ah:=hf2.le
 have hfl:=acW l m
 have hll:=hl.len
 obtain ⟨G,hG,hcap,hP⟩:=hL
 obtain ⟨b,o',c0,rfl,anc⟩:=hG.pos hpos
 obtain ⟨v',hv',-,⟨h0,-⟩|⟨b2,o2,c2,c',h2,rfl⟩⟩:=ajG hcap (.inr ⟨b,o',c0,rfl,hpos⟩) hfl 4
 ·omega
 cases h2
 simp (maxSteps:=9^9) (disch:=first|assumption|decide|omega) only [go_sem,z3,hlen,hv']
 refine bY.st (Fr σ2) (by have hW2:=hF2.wf;exact fr) fun hF3=>?_
 have yP:=hF2.trans hF3
 refine aP (fun q tm σ'=>∃ j,q=fF l m - j∧j≤fF l m∧Tr.aj tm 0 = .c (.sl b o' l.length c0)∧Tr.aj tm 2 = .c (.ptr rb 0)∧Tr.aj tm 6 = .c (.int .i64 (.ofNat (fF l m)))∧Tr.aj tm 7 = .c (.ptr σ2.ah 0)
  ∧ Tr.aj tm 20 = .c (.sl b o' (fF l m) c')∧Tr.aj tm 21 = .c (.int .i64 (.ofNat (fF l m)))∧Tr.aj tm 22 = .c (.int .i64 (.ofNat j))
  ∧ σ'.h σ2.ah=some ⟨[.bool (rn (jk l m)),.str (rs (jk l m)),.str (rd (jk l m))],none⟩∧uG σ'.h rb bc n o c (Dy f (l.take j))∧(∀ c,Zk D (k+dO (l.take j)) (Dy f (l.take j) c))∧fG [rb,bc] σ σ'∧σ2.ah+1≤σ'.ah) (fF l m) ?_ ?_
 ·refine ⟨0,by omega,by omega,?_⟩
  simp (maxSteps:=9^9) (disch:=first|assumption|decide|omega) only [go_sem,z3,true_and,List.take_zero,ac2]
  exact ⟨hr.fr hf.wf yP,fun c=>(hZ c).mono (by omega),yP.ex _,Nat.le_refl _⟩
 ·rintro q tm σ' ⟨j,rfl,hj,t0,t2,t6,t7,t20,t21,t22,hq,hr',hZ',hf',hnx⟩
  simp (maxSteps:=9^9) (disch:=first|assumption|decide|omega) only [go_sem,z3,t0,t2,t6,t7,t20,t21,t22]
  refine aK (fun hlt=>?_) (fun hlt=>?_)
  ·have hjl:j<l.length:=by omega
   have Nk:=je hjl
   have Xd:=hP j hjl
   have htl:=hl.tl _ Nk
   have hpl:=Xd.len
   have Zx:=anc j hjl
   have hb0:=hW0.iK Zx
   have hld:=hf'.ld hf.wf (by simp;omega) (hf.ld hW0 Zx)
   unfold jr at hld
   have hb:=hf'.wf.iK hld
   simp (maxSteps:=9^9) (disch:=first|assumption|decide|omega) only [go_sem,z3,t0,t2,t6,t7,t20,t21,t22,hld,Xd.kn,hpl]
   refine bY.st (Fr σ') (by have hW2:=hf'.wf;exact fr) fun oq=>?_
   refine aP (fun q tm σ3=>∃ i,q=(ix l j).length - i∧i≤(ix l j).length∧Tr.aj tm 0 = .c (.sl b o' l.length c0)∧Tr.aj tm 2 = .c (.ptr rb 0)∧Tr.aj tm 6 = .c (.int .i64 (.ofNat (fF l m)))∧Tr.aj tm 7 = .c (.ptr σ2.ah 0)
    ∧ Tr.aj tm 20 = .c (.sl b o' (fF l m) c')∧Tr.aj tm 21 = .c (.int .i64 (.ofNat (fF l m)))∧Tr.aj tm 22 = .c (.int .i64 (.ofNat j))∧Tr.aj tm 27 = .c (G j)∧Tr.aj tm 28 = .c (.int .i64 (.ofNat (ix l j).length))∧Tr.aj tm 29 = .c (.int .i64 (.ofNat i))
    ∧ uG σ3.h rb bc n o c (Xa (Dy f (l.take j)) ((ix l j).take i) 1)∧(∀ c,Zk D (k+dO (l.take j)+i) (Xa (Dy f (l.take j)) ((ix l j).take i) 1 c))∧fG [rb,bc] σ' σ3) (ix l j).length ?_ ?_
   ·refine ⟨0,by omega,by omega,?_⟩
    simp (maxSteps:=9^9) (disch:=first|assumption|decide|omega) only [go_sem,z3,t0,t2,t6,t7,t20,t21,t22,true_and,List.take_zero,Xb]
    exact ⟨hr'.fr hf'.wf oq,hZ',oq.ex _⟩
   ·rintro q tm2 σ3 ⟨i,rfl,hi,t0,t2,t6,t7,t20,t21,t22,t27,t28,t29,hr3,hZ3,hf3⟩
    simp (maxSteps:=9^9) (disch:=first|assumption|decide|omega) only [go_sem,z3,t0,t2,t6,t7,t20,t21,t22,t27,t28,t29]
    refine aK (fun hli=>?_) (fun hli=>?_)
    ·obtain ⟨b3,o3,c3,e3,qg⟩:=Xd.pos (by omega)
     rw [e3] at t27
     have qg:=qg i hli
     have hb3:=hW0.iK qg
     have hlx:=(hf'.trans hf3).ld hf.wf (by simp;omega) (hf.ld hW0 qg)
     unfold wz at hlx
     have hb4:=hf3.wf.iK hlx
     have hsn:=QC (Dy f (l.take j)) ((ix l j).take i) (ix (ix l j) i) 1
     rw [← take_snoc hli,Rat.mul_one] at hsn
     have hpm:=je hli
     have hid:=hl.id _ Nk _ hpm
     have hsp:=hl.sp _ Nk _ hpm
     have hzp:=hl.zp _ Nk _ hpm
     have hnp:=QD l hjl
     generalize ix (ix l j) i=p at *
     simp (maxSteps:=9^9) (disch:=first|assumption|decide|omega) only [go_sem,z3,t0,t2,t6,t7,t20,t21,t22,t27,t28,t29,hlx]
     refine aT.st (Fr σ3) (by have hW2:=hf3.wf;exact fr) fun Ei=>?_
     refine (ahK Ei.wf (hr3.fr hf3.wf Ei) _ hsp _ ((hZ3 _).sz hD (Nat.le_trans (by omega) hk)) hid).mono ?_
     rintro _ σ5 ⟨hr5,hf5⟩
     rw [hsn] at hr5
     simp (maxSteps:=9^9) (disch:=first|assumption|decide|omega) only [go_sem,z3,t0,t2,t6,t7,t20,t21,t22,t27,t28,t29]
     refine ⟨(ix l j).length - (i+1),by omega,i+1,rfl,by omega,e3.symm ▸ rfl,rfl,hr5,fun c=>?_,hf3.trans ((Ei.ex _).trans hf5)⟩
     rw [← hsn]
     refine (hZ3 c).add (l:=1) ?_
     split
     ·exact hzp
     ·exact Zk.zero
    ·have:i=(ix l j).length:=by omega
     subst this
     rw [List.take_length,Zw,← take_snoc hjl] at hr3 hZ3
     have hnp:=IG (l.take j) (ix l j)
     rw [← take_snoc hjl] at hnp
     have hfx:=hf3.le
     have hqx:=hf3.get hf'.wf (show ¬ σ2.ah∈[rb,bc] by simp;omega) hq
     simp (maxSteps:=9^9) (disch:=first|assumption|decide|omega) only [go_sem,z3,t0,t2,t6,t7,t20,t21,t22,t27,t28,t29]
     exact ⟨fF l m - (j+1),by omega,j+1,rfl,by omega,rfl,hqx,hr3,fun c=>(hZ3 c).mono (by omega),hf'.trans hf3,by omega⟩
  ·have:j=fF l m:=by omega
   subst this
   simp (maxSteps:=9^9) (disch:=first|assumption|decide|omega) only [go_sem,z3,t0,t2,t6,t7,t20,t21,t22]
   refine aK (fun hlf=>?_) (fun hlf=>?_)
   ·have Nk:=je hlf
    have Zx:=anc _ hlf
    have hb0:=hW0.iK Zx
    have hld:=hf'.ld hf.wf (by simp;omega) (hf.ld hW0 Zx)
    unfold jr at hld
    have hb:=hf'.wf.iK hld
    have hnp:=QD l hlf
    simp (maxSteps:=9^9) (disch:=first|assumption|decide|omega) only [go_sem,z3,t0,t2,t6,t7,t20,t21,t22,hld,aA hq,(hP _ hlf).kn]
    refine (agz hW0 (hf'.to hf (by simp;omega)) hrb hbc hr' (ix l (fF l m)) (G (fF l m)) (hP _ hlf) (jk l m) hs.sx (hl.st _ Nk) (hs.ne hlf) (hs.q hlf) hD hZ' (fun p hp=>⟨hl.id _ Nk p hp,hl.sp _ Nk p hp,hs.z hlf p hp⟩) (Nat.le_trans (by omega) hk) (hl.tl _ Nk)).mono ?_
    rintro _ σ4 ⟨hr4,hZ4,hf5⟩
    have e:Xa (Dy f (l.take (fF l m))) (ix l (fF l m)) (jk l m/aU (ix l (fF l m)))=fun c=>f c+gB l m c:=by
     funext c
     rw [Dx,if_pos hlf]
     unfold Xa Dy
     grind
    rw [e] at hr4 hZ4
    simp (maxSteps:=9^9) (disch:=first|assumption|decide|omega) only [go_sem,z3]
    exact ⟨hr4,fun c=>(hZ4 c).mono (by omega),hf'.trans hf5⟩
   ·have e:Dy f (l.take (fF l m))=fun c=>f c+gB l m c:=by
     funext c
     rw [Dx,if_neg hlf]
     unfold Dy
     grind
    have hnp:=II l (fF l m)
    rw [e] at hr' hZ'
    simp (maxSteps:=9^9) (disch:=first|assumption|decide|omega) only [go_sem,z3]
    exact ⟨hr',fun c=>(hZ' c).mono (by omega),hf'⟩
theorem uH {α:Type} (l:List α) (a:α) (f:α→Rat):aO (l ++ [a]) f=aO l f+f a:=by
 induction l with
 | nil=>show f a+0=0+f a;grind
 | cons b l ih=>show f b+aO (l ++ [a]) f=f b+aO l f+f a;rw [ih];grind
theorem Xg {α:Type} {D k:Nat} {f:α→Rat} : ∀ {l:List α},(∀ a∈l,Zk D k (f a))→Zk D (k*l.length) (aO l f)
 | [],_=>Zk.zero
 | a::l,h=>by
  have:=(h a (by simp)).add (Xg (l:=l) fun b hb=>h b (by simp [hb]))
  rw [List.length_cons,Nat.mul_succ,Nat.add_comm]
  exact this
theorem ac3 {α:Type} {l:List α} {a:α} {j:Nat} (h:a∈l.take j):a∈l:=List.mem_of_mem_take h
def JK (ms:List Nat) (i:Nat):B:=.int .i64 (.ofNat (ix ms i))
set_option maxRecDepth 10000 in
theorem agB {σ:St} (hW:WF σ) {n:Nat} (ms:List Nat) (mv lv rv:B) (f:Nat→Rat) (hm:HC σ.h mv ms.length (JK ms)) (hv:HL σ.h 3 rv n fun i=>kC (f i)) (hms : ∀ i∈ms,i<n) (hl:ms.length≤1000000)
  {D k:Nat} (hD:Eb D) (hZ : ∀ i,i<n→Zk D k (f i)) (hk:k*(ms.length+1)≤256 ^ uK) :
  aT EN 96 [.agg [mv,lv],.c rv] σ fun r σ'=>r = .agg [.bool (rn (aO ms f)),.str (rs (aO ms f)),.str (rd (aO ms f))]∧Fr σ σ':=by
 refine dh (jC.o _ _) jC.h ?_
 unfold jC
 dsimp only
 have hlen:=hm.len
 simp (maxSteps:=9^9) (disch:=first|assumption|decide|omega) only [go_sem,z3,hlen,hm.kn]
 refine bY.st (Fr σ) (fr) fun hF=>?_
 refine aP (fun q tm σ'=>∃ j,q=ms.length - j∧j≤ms.length∧Tr.aj tm 1 = .c rv∧Tr.aj tm 4 = .c (.ptr (σ.ah+1) 0)∧Tr.aj tm 5 = .c (.ptr (σ.ah+1+1) 0)∧Tr.aj tm 10 = .c mv∧Tr.aj tm 11 = .c (.int .i64 (.ofNat ms.length))∧Tr.aj tm 12 = .c (.int .i64 (.ofNat j))
  ∧ σ'.h (σ.ah+1)=some ⟨[.bool (rn 0),.str (rs 0),.str (rd 0)],none⟩∧σ'.h (σ.ah+1+1)=some ⟨[.bool (rn (aO (ms.take j) f)),.str (rs (aO (ms.take j) f)),.str (rd (aO (ms.take j) f))],none⟩∧Fr σ σ'∧σ.ah+3≤σ'.ah) ms.length ?_ ?_
 ·refine ⟨0,by omega,by omega,?_⟩
  simp (maxSteps:=9^9) (disch:=first|assumption|decide|omega) only [go_sem,z3,true_and,List.take_zero,show aO ([]:List Nat) f=0 from rfl]
  exact ⟨hF,by omega⟩
 ·rintro q tm σ' ⟨j,rfl,hj,t1,t4,t5,t10,t11,t12,hq1,hq2,hf',hnx⟩
  simp (maxSteps:=9^9) (disch:=first|assumption|decide|omega) only [go_sem,z3,t1,t4,t5,t10,t11,t12]
  refine aK (fun hlt=>?_) (fun hlt=>?_)
  ·obtain ⟨b,o,c,rfl,hld⟩:=hm.pos (by omega)
   have hld:=hf'.ld hW (hld j hlt)
   have hn:=hms _ (je hlt)
   obtain ⟨b2,o2,c2,rfl,ac4⟩:=hv.pos (by omega)
   have ac4:=hf'.ld hW (ac4 _ hn)
   have hb2:=hf'.wf.iK ac4
   unfold JK at hld
   unfold kC at ac4
   have hsn:=uH (ms.take j) (ix ms j) f
   rw [← take_snoc hlt] at hsn
   have hz1:Sz (f (ix ms j)):=(hZ _ hn).sz hD (Nat.le_trans (Nat.le_mul_of_pos_right _ (by omega)) hk)
   have hz2:Sz (aO (ms.take j) f):=(Xg fun a ha=>hZ a (hms a (ac3 ha))).sz hD (Nat.le_trans (Nat.mul_le_mul_left _ (by rw [List.length_take];omega)) hk)
   simp (maxSteps:=9^9) (disch:=first|assumption|decide|omega) only [go_sem,z3,t1,t4,t5,t10,t11,t12,hld,ac4,aA hq2,hq1,hq2,bP hq2,← hsn]
   refine ⟨ms.length - (j+1),by omega,j+1,rfl,by omega,rfl,rfl,?_,by omega⟩
   exact fr
  ·have:j=ms.length:=by omega
   subst this
   rw [List.take_length] at hq2
   simp (maxSteps:=9^9) (disch:=first|assumption|decide|omega) only [go_sem,z3,t1,t4,t5,t10,t11,t12,aA hq2,hq1,bP hq1]
   exact fr
structure NZ (h:Tr Bk) (rv pv:B) (e:iG):Prop where
 rk:JJ h rv e.rk
 ps : ∃ Gm Gl:Nat→B,HL h 2 pv e.ps.length (fun i=>[Gm i,Gl i])∧∀ i,i<e.ps.length→HC h (Gm i) (ix e.ps i).1.length (JK (ix e.ps i).1)∧JJ h (Gl i) (ix e.ps i).2
theorem NZ.fr {σ σ' : St} (hW:WF σ) (hf:Fr σ σ') {rv pv:B} {e:iG} (h:NZ σ.h rv pv e):NZ σ'.h rv pv e:=by
 obtain ⟨h1,Gm,Gl,h2,h3⟩:=h
 exact ⟨h1.fr hW hf,Gm,Gl,h2.fr hW hf,fun i hi=>⟨(h3 i hi).1.fr hW hf,(h3 i hi).2.fr hW hf⟩⟩
def jO (n:Nat) (rv pv:B) (t:Rat):List B:=[.int .i64 (.ofNat n),rv,pv,.bool (rn t),.str (rs t),.str (rd t)]
theorem JJ.kn {h:Tr Bk} {v:B} {l:iH} (hl:JJ h v l):v.kn=true:=hl.choose_spec.1.kn
theorem NZ.pkn {h:Tr Bk} {rv pv:B} {e:iG} (hl:NZ h rv pv e):pv.kn=true:=by
 obtain ⟨_,Gm,Gl,h2,h3⟩:=hl
 exact h2.kn
structure aoI (σ σ' : St) (r:V) (n:Nat) (f:Nat→Rat) (b:Nat):Prop where
 r:r = .c (.sl b 0 n (.ex n))
 c:σ'.h b=some ⟨eP n f,none⟩
 b:σ.ah≤b
set_option maxRecDepth 10000 in
theorem Xh {σ:St} (hW:WF σ) {n:Nat} {rv pv:B} (t:Rat) (e:iG) (hL:NZ σ.h rv pv e) (m:Rat) {D:Nat} (hD:Eb D) (hn:n≤1000000) (hl:QF D n e.rk) (hs:NY D e.rk m (jk e.rk m)) (hm:Sz m) (hk:dO e.rk≤256 ^ uK) (hpos:0<e.rk.length) :
  aT EN 56 [.agg (jO n rv pv t),.agg [.bool (rn m),.str (rs m),.str (rd m)]] σ fun r σ'=>(∃ b,aoI σ σ' r n (fun i=>Eh e m i) b)∧(∀ i:Nat,Zk D (dO e.rk) (Eh e m i))∧Fr σ σ':=by
 refine dh (iY.o _ _) iY.h ?_
 unfold iY jO
 dsimp only
 simp (maxSteps:=9^9) (disch:=first|assumption|decide|omega) only [go_sem,z3,hL.rk.kn]
 refine aT.st (Fr σ) (fr) fun hF=>?_
 refine (ahL (f:=fun _=>0) (k:=0) hW hF (by omega) (by omega) ⟨au _ _ _,(ak _ _ _ _ (by omega)).trans (au _ _ _),rfl,rfl,by omega⟩ e.rk rv hL.rk m hD hl hs hm (fun _=>Zk.zero) (by omega) hpos).mono ?_
 rintro _ σ2 ⟨hr2,hZ2,hf2⟩
 have hz:(fun c=>(0:Rat)+gB e.rk m c)=gB e.rk m:=by funext c;grind
 have hz2 : ∀ c,(0:Rat)+gB e.rk m c=gB e.rk m c:=fun c=>by grind
 rw [hz] at hr2
 simp only [hz2,Nat.zero_add] at hZ2
 have h5:=hr2.r
 simp (maxSteps:=9^9) (disch:=first|assumption|decide|omega) only [go_sem,z3,aA h5]
 exact ⟨⟨_,rfl,hr2.c,by omega⟩,fun i=>hZ2 i,hf2.to hF (by simp;omega)⟩
set_option maxRecDepth 10000 in
theorem Xi {σ:St} (hW:WF σ) {n b:Nat} {c:Cap} {f:Nat→Rat} (hb:σ.h b=some ⟨eP n f,none⟩) (hn:n≤1000000) :
  aT EN 54 [.c (.sl b 0 n c)] σ fun r σ'=>(∃ b' c' o',r = .c (.sl b' 0 n c')∧σ'.h b' = some ⟨eP n f,o'⟩∧plo o' = true∧rdo o' = true∧σ.ah≤b'∧b' < σ'.ah)∧Fr σ σ':=by
 refine dh (fP.o _ _) fP.h ?_
 unfold fP
 dsimp only
 have hbl:=hW.lt hb
 by_cases h0:n=0
 ·subst h0
  simp (maxSteps:=9^9) (disch:=first|assumption|decide|omega) only [go_sem,z3,hb]
  refine ⟨⟨σ.ah,_,none,rfl,au _ _ _,rfl,rfl,Nat.le_refl _,Nat.lt_succ_self _⟩,?_⟩
  exact fr
 ·simp (maxSteps:=9^9) (disch:=first|assumption|decide|omega) only [go_sem,z3,hb]
  refine ⟨⟨σ.ah+1,_,_,rfl,au _ _ _,rfl,rfl,by omega,Nat.lt_succ_self _⟩,?_⟩
  exact fr
def zF (l:List Nat) (f:Nat→Rat):Int→Rat:=fun i=>if 0≤i then (if l.contains i.toNat then 0 else f i.toNat) else 0
theorem N7 (l:List Nat) (f:Nat→Rat):zF l f (-1)=0:=if_neg (by omega)
theorem UZ (l:List Nat) (f:Nat→Rat) (i:Nat):zF l f i=if l.contains i then 0 else f i:=by
 unfold zF
 rw [if_pos (by omega),Int.toNat_natCast]
theorem agC (l:List Nat) (f:Nat→Rat) (k n:Nat):eP n (aI (fun i=>zF l f i) k 0)=eP n fun i=>zF (l ++ [k]) f i:=by
 refine gW fun i _=>?_
 show (if i=k then 0 else zF l f i)=_
 rw [UZ,UZ,List.contains_append]
 by_cases h:i=k
 ·subst h;simp
 ·rw [if_neg h]
  simp [h]
def flat (ps:List (List Nat×iH)):List Nat:=ps.flatMap fun p=>p.1
theorem Zy (ps:List (List Nat×iH)) (p:List Nat×iH):flat (ps ++ [p])=flat ps ++ p.1:=by unfold flat;simp
theorem QG (e:iG) (c:Nat):(flat e.ps).contains c=pooled e c:=by
 unfold flat pooled
 induction e.ps with
 | nil=>rfl
 | cons p l ih=>rw [List.flatMap_cons,List.contains_append,List.any_cons,ih]
set_option maxRecDepth 10000 in
theorem akq {σ:St} (hW:WF σ) {n b:Nat} {rv pv:B} (t:Rat) (e:iG) (hL:NZ σ.h rv pv e) {f:Nat→Rat} (hb:σ.h b=some ⟨eP n f,none⟩) {c:Cap} (hn:n≤1000000) (hp:e.ps.length≤1000000) (hm : ∀ p∈e.ps,p.1.length≤1000000∧∀ i∈p.1,i<n) :
  aT EN 94 [.agg (jO n rv pv t),.c (.sl b 0 n c)] σ fun r σ'=>(∃ rb bc o c',r = .c (.ptr rb 0)∧uG σ'.h rb bc n o c' (zF (flat e.ps) f)∧σ.ah≤rb∧σ.ah≤bc)∧Fr σ σ':=by
 refine dh (ji.o _ _) ji.h ?_
 unfold ji jO
 dsimp only
 simp (maxSteps:=9^9) (disch:=first|assumption|decide|omega) only [go_sem,z3]
 refine aT.st (Fr σ) (fr) fun hF=>?_
 refine (Xi hF.wf (hF.get hW hb) hn).mono ?_
 rintro _ σ2 ⟨⟨bc,c',o,rfl,h2,hpl,hrd,hbc,hbc2⟩,hf2⟩
 have hF2:=hF.trans hf2
 obtain ⟨-,Gm,Gl,hG,hP⟩:=hL
 have hlen:=hG.len
 have hbox:σ2.h σ.ah=some ⟨[.int .i64 (.ofNat n),rv,pv,.bool (rn t),.str (rs t),.str (rd t)],none⟩:=hf2.get hF.wf (au _ _ _)
 have hl2:σ.ah+1≤σ2.ah:=hf2.le
 have hbc:σ.ah+1≤bc:=hbc
 simp (maxSteps:=9^9) (disch:=first|assumption|decide|omega) only [go_sem,z3,aA hbox,hlen,hG.kn]
 refine aP (fun q tm σ'=>∃ j,q=e.ps.length - j∧j≤e.ps.length∧Tr.aj tm 5 = .c (.ptr σ2.ah 0)∧Tr.aj tm 15 = .c pv∧Tr.aj tm 16 = .c (.int .i64 (.ofNat e.ps.length))∧Tr.aj tm 17 = .c (.int .i64 (.ofNat j))
  ∧ uG σ'.h σ2.ah bc n o c' (zF (flat (e.ps.take j)) f)∧Fr σ σ'∧σ2.ah+1≤σ'.ah) e.ps.length ?_ ?_
 ·refine ⟨0,by omega,by omega,?_⟩
  simp (maxSteps:=9^9) (disch:=first|assumption|decide|omega) only [go_sem,z3,true_and,List.take_zero]
  refine ⟨⟨?_,?_,hpl,hrd,by omega⟩,?_,Nat.le_refl _⟩
  ·rw [au,N7]
  ·rw [ak _ _ _ _ (by omega),h2]
   congr 2
  ·exact fr
 ·rintro q tm σ' ⟨j,rfl,hj,t5,t15,t16,t17,hr,hf',hnx⟩
  simp (maxSteps:=9^9) (disch:=first|assumption|decide|omega) only [go_sem,z3,t5,t15,t16,t17]
  refine aK (fun hlt=>?_) (fun hlt=>?_)
  ·obtain ⟨b2,o2,c2,rfl,hld⟩:=hG.pos (by omega)
   have hld:=hf'.ld hW (hld j hlt)
   have hb2:=hf'.wf.iK hld
   have Xd:=hP j hlt
   have hpl2:=Xd.1.len
   have hmj:=hm _ (je hlt)
   have hfs:=Zy (e.ps.take j) (ix e.ps j)
   rw [← take_snoc hlt] at hfs
   generalize ix e.ps j=p at *
   simp (maxSteps:=9^9) (disch:=first|assumption|decide|omega) only [go_sem,z3,t5,t15,t16,t17,hld,Xd.1.kn,Xd.2.kn,hpl2]
   refine bY.st (Fr σ') (by have hW2:=hf'.wf;exact fr) fun oq=>?_
   refine aP (fun q tm σ3=>∃ i,q=p.1.length - i∧i≤p.1.length∧Tr.aj tm 5 = .c (.ptr σ2.ah 0)∧Tr.aj tm 15 = .c (.sl b2 o2 e.ps.length c2)∧Tr.aj tm 16 = .c (.int .i64 (.ofNat e.ps.length))∧Tr.aj tm 17 = .c (.int .i64 (.ofNat j))
    ∧ Tr.aj tm 22 = .c (Gm j)∧Tr.aj tm 23 = .c (.int .i64 (.ofNat p.1.length))∧Tr.aj tm 24 = .c (.int .i64 (.ofNat i))
    ∧ uG σ3.h σ2.ah bc n o c' (zF (flat (e.ps.take j) ++ p.1.take i) f)∧Fr σ σ3∧σ2.ah+1≤σ3.ah) p.1.length ?_ ?_
   ·refine ⟨0,by omega,by omega,?_⟩
    simp (maxSteps:=9^9) (disch:=first|assumption|decide|omega) only [go_sem,z3,t5,t15,t16,t17,true_and,List.take_zero,List.append_nil]
    exact ⟨hr.fr hf'.wf oq,hf'.trans oq,by omega⟩
   ·rintro q tm2 σ3 ⟨i,rfl,hi,t5,t15,t16,t17,t22,t23,t24,hr3,hf3,hn3⟩
    simp (maxSteps:=9^9) (disch:=first|assumption|decide|omega) only [go_sem,z3,t5,t15,t16,t17,t22,t23,t24]
    refine aK (fun hli=>?_) (fun hli=>?_)
    ·obtain ⟨b3,o3,c3,e3,qg⟩:=Xd.1.pos (by omega)
     rw [e3] at t22
     have qg:=hf3.ld hW (qg i hli)
     unfold JK at qg
     have hin:=hmj.2 _ (je hli)
     have hzs:=agC (flat (e.ps.take j) ++ p.1.take i) f (ix p.1 i) n
     rw [List.append_assoc,← take_snoc hli] at hzs
     have ane:=hr3.r
     have anf:=hr3.c
     have hb3:=hf3.wf.lt anf
     simp (maxSteps:=9^9) (disch:=first|assumption|decide|omega) only [go_sem,z3,t5,t15,t16,t17,t22,t23,t24,qg,aA ane,bP anf,hpl,hzs]
     refine ⟨p.1.length - (i+1),by omega,i+1,rfl,by omega,e3.symm ▸ rfl,rfl,⟨?_,au _ _ _,hpl,hrd,by omega⟩,?_,by omega⟩
     ·rw [ak _ _ _ _ (by omega),ane,N7,N7]
     ·exact fr
    ·have:i=p.1.length:=by omega
     subst this
     rw [List.take_length,← hfs] at hr3
     simp (maxSteps:=9^9) (disch:=first|assumption|decide|omega) only [go_sem,z3,t5,t15,t16,t17,t22,t23,t24]
     exact ⟨e.ps.length - (j+1),by omega,j+1,rfl,by omega,rfl,hr3,hf3,by omega⟩
  ·have:j=e.ps.length:=by omega
   subst this
   rw [List.take_length] at hr
   simp (maxSteps:=9^9) (disch:=first|assumption|decide|omega) only [go_sem,z3,t5,t15,t16,t17]
   exact ⟨⟨_,_,_,_,rfl,hr,by omega,by omega⟩,hf'⟩
def Dz:List (List Nat×iH)→Nat
 | []=>0
 | p::l=>dO p.2+Dz l
theorem ac5 (l:List (List Nat×iH)) (p:List Nat×iH):Dz (l ++ [p])=Dz l+dO p.2:=by
 induction l with
 | nil=>show dO p.2+0=0+dO p.2;omega
 | cons q l ih=>show dO q.2+Dz (l ++ [p])=dO q.2+Dz l+dO p.2;rw [ih];omega
theorem ac6 (l:List (List Nat×iH)) : ∀ j,Dz (l.take j)≤Dz l:=by
 induction l with
 | nil=>intro j;simp
 | cons u l ih =>
  intro j
  cases j with
  | zero=>simp [Dz]
  | succ j=>rw [List.take_succ_cons];have:=ih j;unfold Dz;omega
structure EOk (D n:Nat) (e:iG):Prop where
 hn:n≤1000000
 rk:QF D n e.rk
 rk0:0<e.rk.length
 pl:e.ps.length≤1000000
 pm : ∀ p∈e.ps,p.1.length≤1000000∧∀ i∈p.1,i<n
 pk : ∀ p∈e.ps,QF D n p.2∧0<p.2.length
 sz:dO e.rk*1000001+Dz e.ps≤256 ^ uK
structure MOk (D:Nat) (e:iG) (m:Rat):Prop where
 hm:Sz m
 rk:NY D e.rk m (jk e.rk m)
 ps : ∀ p∈e.ps,NY D p.2 (sF e m p) (jk p.2 (sF e m p))∧Sz (sF e m p)
structure ROk (D:Nat) (e:iG) (m:Rat):Prop where
 rk:NY D e.rk m 1
 ps : ∀ p∈e.ps,NY D p.2 (sF e m p) (ptR e m p)∧Sz (ptR e m p)
def EF (g:List Nat×iH→Int→Rat) (f:Int→Rat) (ps:List (List Nat×iH)) (c:Int):Rat:=f c+aO ps fun p=>g p c
theorem ac7 (g:List Nat×iH→Int→Rat) (f:Int→Rat):EF g f []=f:=by
 funext c
 show f c+0=f c
 grind
theorem Zz (g:List Nat×iH→Int→Rat) (f:Int→Rat) (ps:List (List Nat×iH)) (p:List Nat×iH):(fun c=>EF g f ps c+g p c)=EF g f (ps ++ [p]):=by
 funext c
 unfold EF
 rw [uH];grind
theorem agD {h:Tr Bk} {b n:Nat} {c:Cap} {f:Nat→Rat} {o:Option (Nat×Nat)} (hb:h b=some ⟨eP n f,o⟩) (ho:rdo o=true):HL h 3 (.sl b 0 n c) n fun i=>kC (f i):=by
 refine .inr ⟨b,0,c,rfl,fun i hi=>?_⟩
 rw [aA hb,Ny]
 dsimp only
 rw [ho,Nat.zero_add,WI _ _ _ hi];rfl
set_option maxRecDepth 10000 in
theorem ZA {σ:St} (hW:WF σ) {n:Nat} {rv pv:B} (t:Rat) (e:iG) (hL:NZ σ.h rv pv e) (m:Rat) {D:Nat} (hD:Eb D) (he:EOk D n e) (hm:MOk D e m) :
  aT EN 55 [.agg (jO n rv pv t),.agg [.bool (rn m),.str (rs m),.str (rd m)]] σ fun r σ'=>(∃ bc c o,r = .bZ (.c (.sl bc 0 n c)) (.bZ (.agg [.bool (rn (rsv e m)),.str (rs (rsv e m)),.str (rd (rsv e m))]) .tnil)∧σ'.h bc=some ⟨eP n (wG e m),o⟩∧plo o=true∧rdo o=true∧σ.ah≤bc∧bc<σ'.ah)∧Fr σ σ':=by
 refine dh (iL.o _ _) iL.h ?_
 unfold iL jO
 dsimp only
 simp (maxSteps:=9^9) (disch:=first|assumption|decide|omega) only [go_sem,z3,hL.rk.kn,hL.pkn]
 refine aT.st (Fr σ) (fr) fun hF=>?_
 have hnp:dO e.rk≤256 ^ uK:=Nat.le_trans (by omega) he.sz
 refine (Xh hF.wf t e (hL.fr hW hF) m hD he.hn he.rk hm.rk hm.hm hnp he.rk0).mono ?_
 rintro _ σ2 ⟨⟨b,rfl,h2,hb⟩,hZ,hf2⟩
 have hF2:=hF.trans hf2
 have hb:σ.ah+1+1+1≤b:=hb
 have hl2:σ.ah+1+1+1≤σ2.ah:=hf2.le
 have hx0:σ2.h σ.ah=some ⟨[.int .i64 (.ofNat n),rv,pv,.bool (rn t),.str (rs t),.str (rd t)],none⟩:=hf2.get hF.wf ((ak _ _ _ _ (by omega)).trans ((ak _ _ _ _ (by omega)).trans (au _ _ _)))
 have hx2:σ2.h (σ.ah+1+1)=some ⟨[.bool (rn 0),.str (rs 0),.str (rd 0)],none⟩:=hf2.get hF.wf (au _ _ _)
 have hbl:=hf2.wf.lt h2
 simp (maxSteps:=9^9) (disch:=first|assumption|decide|omega) only [go_sem,z3,aA hx0,hL.rk.kn,hL.pkn]
 refine (akq hf2.wf t e (hL.fr hW hF2) h2 he.hn he.pl he.pm).mono ?_
 rintro _ σ3 ⟨⟨rb,bc,o,c',rfl,hr3,hrb,hbc⟩,hf3⟩
 have hF3:=hF2.trans hf3
 have hl3:=hf3.le
 have hx0:=hf3.get hf2.wf hx0
 have hx2:=hf3.get hf2.wf hx2
 have h2:=hf3.get hf2.wf h2
 obtain ⟨-,Gm,Gl,hG,hP⟩:=hL
 have hlen:=hG.len
 simp (maxSteps:=9^9) (disch:=first|assumption|decide|omega) only [go_sem,z3,aA hx0,hG.kn,hlen]
 refine aP (fun q tm σ'=>∃ j,q=e.ps.length - j∧j≤e.ps.length∧Tr.aj tm 5 = .c (.ptr (σ.ah+1+1) 0)∧Tr.aj tm 6 = .c (.sl b 0 n (.ex n))∧Tr.aj tm 7 = .c (.ptr rb 0)∧Tr.aj tm 17 = .c pv∧Tr.aj tm 18 = .c (.int .i64 (.ofNat e.ps.length))∧Tr.aj tm 19 = .c (.int .i64 (.ofNat j))
  ∧ uG σ'.h rb bc n o c' (EF (fun p c=>gB p.2 (sF e m p) c) (zF (flat e.ps) fun i=>Eh e m i) (e.ps.take j))∧(∀ c,Zk D (dO e.rk+Dz (e.ps.take j)) (EF (fun p c=>gB p.2 (sF e m p) c) (zF (flat e.ps) fun i=>Eh e m i) (e.ps.take j) c))
  ∧ σ'.h b=some ⟨eP n fun i=>Eh e m i,none⟩∧σ'.h (σ.ah+1+1)=some ⟨[.bool (rn 0),.str (rs 0),.str (rd 0)],none⟩∧Fr σ σ') e.ps.length ?_ ?_
 ·refine ⟨0,by omega,by omega,?_⟩
  simp (maxSteps:=9^9) (disch:=first|assumption|decide|omega) only [go_sem,z3,true_and,List.take_zero,ac7]
  refine ⟨hr3,fun c=>?_,h2,hx2,hF3⟩
  unfold zF
  split
  ·split
   ·exact Zk.zero
   ·exact (hZ _).mono (by omega)
  ·exact Zk.zero
 ·rintro q tm σ' ⟨j,rfl,hj,t5,t6,t7,t17,yO,t19,hr,hZ',hg,agE,hf'⟩
  simp (maxSteps:=9^9) (disch:=first|assumption|decide|omega) only [go_sem,z3,t5,t6,t7,t17,yO,t19]
  refine aK (fun hlt=>?_) (fun hlt=>?_)
  ·obtain ⟨b2,o2,c2,rfl,hld⟩:=hG.pos (by omega)
   have hpj:=je hlt
   have Xd:=hP j hlt
   have hld:=hf'.ld hW (hld j hlt)
   have hb2:=hf'.wf.iK hld
   have hns:=ac5 (e.ps.take j) (ix e.ps j)
   have hac:=Zz (fun p c=>gB p.2 (sF e m p) c) (zF (flat e.ps) fun i=>Eh e m i) (e.ps.take j) (ix e.ps j)
   rw [← take_snoc hlt] at hns hac
   have hnt:=ac6 e.ps (j+1)
   have hpm:=he.pm _ hpj
   have hpk:=he.pk _ hpj
   have hmp:=hm.ps _ hpj
   have hsz:=he.sz
   have hpl:=he.pl
   generalize ix e.ps j=p at *
   simp (maxSteps:=9^9) (disch:=first|assumption|decide|omega) only [go_sem,z3,t5,t6,t7,t17,yO,t19,hld,Xd.1.kn,Xd.2.kn]
   have h1m:=show p.1.length+1≤1000001 by omega
   have hA:=Nat.le_trans (Nat.mul_le_mul_left (dO e.rk) h1m) (Nat.le_trans (Nat.le_add_right _ _) hsz)
   refine aT.st (Fr σ') (by have hW':=hf'.wf;exact fr) fun yP=>?_
   refine (agB yP.wf p.1 (Gm j) (Gl j) (.sl b 0 n (.ex n)) (fun i=>Eh e m i) (Xd.1.fr hW (hf'.trans yP)) (agD (yP.get hf'.wf hg) rfl) hpm.2 hpm.1 hD (fun i _=>hZ i) hA).mono ?_
   rintro _ σ4 ⟨rfl,hf4⟩
   have hq9:σ4.h σ'.ah=some ⟨[Gm j,Gl j],none⟩:=hf4.get yP.wf (au _ _ _)
   have oq:=yP.trans hf4
   simp (maxSteps:=9^9) (disch:=first|assumption|decide|omega) only [go_sem,z3,t5,t6,t7,t17,yO,t19,aA hq9,Xd.2.kn]
   refine (ahL hW (hf'.trans oq) (by omega) (by omega) (hr.fr hf'.wf oq) p.2 (Gl j) Xd.2 (sF e m p) hD hpk.1 hmp.1 hmp.2 hZ' (Nat.le_trans (by omega) hsz) hpk.2).mono ?_
   rintro _ σ5 ⟨hr5,hZ5,hf5⟩
   have Ei:=(oq.ex [rb,bc]).trans hf5
   rw [hac] at hr5
   simp (maxSteps:=9^9) (disch:=first|assumption|decide|omega) only [go_sem,z3,t5,t6,t7,t17,yO,t19]
   have aoK : ∀ c,EF (fun p c=>gB p.2 (sF e m p) c) (zF (flat e.ps) fun i=>Eh e m i) (e.ps.take j) c+gB p.2 (sF e m p) c=EF (fun p c=>gB p.2 (sF e m p) c) (zF (flat e.ps) fun i=>Eh e m i) (e.ps.take (j+1)) c:=fun c=>congrFun hac c
   refine ⟨e.ps.length - (j+1),by omega,j+1,rfl,by omega,rfl,hr5,fun c=>?_,Ei.get hf'.wf (by simp;omega) hg,Ei.get hf'.wf (by simp;omega) agE,Ei.to hf' (by simp;omega)⟩
   rw [← aoK]
   exact (hZ5 c).mono (by omega)
  ·have:j=e.ps.length:=by omega
   subst this
   rw [List.take_length] at hr
   have hrr:=hr.r
   simp (maxSteps:=9^9) (disch:=first|assumption|decide|omega) only [go_sem,z3,t5,t6,t7,t17,yO,t19,aA hrr,bP agE,agE]
   have e1:EF (fun p c=>gB p.2 (sF e m p) c) (zF (flat e.ps) fun i=>Eh e m i) e.ps (-1)=rsv e m:=by
    unfold EF rsv
    rw [N7];grind
   have e2:(eP n fun i:Nat=>EF (fun p c=>gB p.2 (sF e m p) c) (zF (flat e.ps) fun i=>Eh e m i) e.ps i)=eP n (wG e m):=by
    refine gW fun i _=>?_
    unfold EF wG
    rw [UZ,QG]
   have hrc:=hr.c
   rw [e2] at hrc
   rw [e1]
   have hlx:=hf'.wf.lt agE
   refine ⟨⟨_,_,_,rfl,?_,hr.pl,hr.rd,by omega,hf'.wf.lt hrc⟩,?_⟩
   ·rw [ak _ _ _ _ (by omega)];exact hrc
   ·exact fr
end Go.Proofs.Xe
