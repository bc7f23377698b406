import Derived.Test.YthkggcakedkboaaGreatDoorYa36
set_option linter.all false
set_option maxRecDepth 100000
set_option maxHeartbeats 8000000
namespace Go.Proofs.Ins
inductive VA(n:Nat)(M:Nat->Nat->Rat)(fr:Nat->Prop):Nat->Prop where
 |base {i:Nat}(h:fr i) (hi:i<n):VA n M fr i
 |step {i j:Nat}(h:VA n M fr i) (hj:j<n) (hm:M j i≠0):VA n M fr j
section
variable {n:Nat} {M:Nat→Nat→Rat}
def VA.lt{fr:Nat->Prop}{i:Nat}(h:VA n M fr i):i<n:=by cases h<;>assumption
def VA.sub{fr S:Nat->Prop}(h0:∀i,i<n->fr i->S i)(hS:∀i j,i<n->j<n->S i->M j i≠0->S j){i:Nat}(h:VA n M fr i):S i:=by
 induction h with
 |base h hi=>grind
 |step h hj hm ih=>exact hS _ _ h.lt hj ih hm
def Shut.rch{S:Nat->Prop}(hS:Shut n M S){i:Nat}(hi:S i){j:Nat}(h:VA n M (λk=>k=i) j):S j:=
 h.sub (λk _ e=>by grind) λa b ha hb hSa hm=>bp λhn=>hm ((hS a ha hSa).2 b hb hn)
structure RList(n:Nat)(M:Nat->Nat->Rat)(fr:Nat->Prop)(l:List Nat):Prop where
 nodup:l.Nodup
 mem:∀i,i∈l↔VA n M fr i
def RList.aok{fr:Nat->Prop}{l:List Nat}(h:RList n M fr l):Vw n M l:=λi hi j hj hn=>bp λhm=>hn ((h.mem j).mpr (.step ((h.mem i).mp hi) hj hm))
def RList.lt{fr:Nat->Prop}{l:List Nat}(h:RList n M fr l):∀i∈l,i<n:=λi hi=>((h.mem i).mp hi).lt
structure I8(n:Nat)(M:Nat->Nat->Rat)(l:List Nat):Prop where
 nodup:l.Nodup
 lt:∀i∈l,i<n
 ne:0<l.length
 aok:Vw n M l
 col:∀i∈l,aB n (λj=>M j i)=1
 min:∀S:Nat->Prop,(∃i,i<n/\S i)->(∀i,i<n->S i->i∈l)->Shut n M S->∀i∈l,S i
def Dry(n:Nat)(M:Nat->Nat->Rat)(l:List Nat):Prop:=∀i∈l,¬aB n (λj=>M j i)<1
def akm(hM:KI n M){of:Nat->Prop}(hof:∀i j,i<n->j<n->of i->M j i≠0->of j){R:Nat->List Nat}(hR:∀i,i<n->of i->RList n M (λk=>k=i) (R i)){i:Nat}(hi:i<n)(hoi:of i)(hd:Dry n M (R i))
  (hmin:∀k,k<n->of k->Dry n M (R k)->(R i).length<=(R k).length):I8 n M (R i):=by
 have hr:=hR i hi hoi
 have hii:i∈R i:=(hr.mem i).mpr (.base rfl hi)
 have awI:∀k∈R i,aB n (λj=>M j k)=1:=λk hk=>by have a:=hd k hk;have b:=hM.le k (hr.lt k hk);grind
 refine⟨hr.nodup,hr.lt,List.length_pos_of_mem hii,hr.aok,awI,λS ⟨k,hk,hSk⟩ hsub hS a ha=>?_⟩
 have hki:k∈R i:=hsub k hk hSk
 have hok:of k:=((hr.mem k).mp hki).sub (S:=of) (λj _ e=>by grind) hof
 have hrk:=hR k hk hok
 have apN:∀b∈R k,S b:=λb hb=>hS.rch hSk ((hrk.mem b).mp hb)
 have hsub2:∀b∈R k,b∈R i:=λb hb=>hsub b (hrk.lt b hb) (apN b hb)
 have hlen:=hmin k hk hok λb hb=>by grind
 refine apN a (bp λhna=>?_)
 have h1:(a::R k).length<=(R i).length:=by have:(a::R k).Nodup:=gb.mpr ⟨hna,hrk.nodup⟩;refine this.length_le_of_subset λb hb=>?_;grind
 grind
def akn{of:Nat->Prop}{R:Nat->List Nat}(hR:∀i,i<n->of i->RList n M (λk=>k=i) (R i))(hno:∀k,k<n->of k->¬Dry n M (R k)):∀S:Nat->Prop,(∃i,i<n/\S i)->(∀i,i<n->S i->of i)->¬Shut n M S:=
 λS ⟨k,hk,hSk⟩ hsub hS=>hno k hk (hsub k hk hSk) λb hb=>by have hr:=hR k hk (hsub k hk hSk);rw[(hS b (hr.lt b hb) (hS.rch hSk ((hr.mem b).mp hb))).1];decide
end
section
variable {n:Nat} {g:GL} (hg:Jc n g) (c:Nat→Rat)
structure BN(least:Bool)(x:Nat->Rat)(t:Rat):Prop where
 nn:Nn n x
 t0:0<=t
 t1:t<=1
 fix:Fix (vO hg) c t x
 least:least=true->Least (vO hg) c t x
def inv_start(least:Bool):BN hg c least (λ_=>0) 0:=by
 have hz:Nn n (λ_=>0):=λ_ _=>be;refine⟨hz,be,jj,λj hj=>?_,λ_=>Least.zero _ _ _⟩;have h1:0<=gG n g (λ_=>0) j:=by
  unfold gG;have a:0<=aB n (λi=>aB (g.k i) λc=>if wI g j i c then gq g (λ_=>0) (i,c)else 0):=AP λi hi=>AP λc _=>by grind[Rw]
  have b:0<=aI g.ds (dG g (λ_=>0) j):=ng λd hd=>by
   have hl:=λl hl=>rJ hg hd (l:=l) hl;have e:=hg.pos d hd;have e1:0<=aI d.2 (gq g λ_=>0):=ng λl h=>Rw hg hz (hl l h);have e2:=Oy (W:=d.1) (q:=λ_=>0) (q':=iD n (gq g λ_=>0)) (λ_=>be) (λl=>by grind[iD,Rw]) j d.2 0 0 be
   rw[LP j _ _ hl]at e2;have e3:ql d.1 (λ_=>0) 0 d.2 j=0:=by
    have:∀t:List fC,ql d.1 (λ_=>0) 0 t j=0:=λt=>by
     induction t with
     |nil=>rfl
     |cons l t ih=>
      grind[ql]
    grind
   grind[jv,dG]
  grind
 have h2:aB n (λi=>0-gG n g (λ_=>0) i)=-aB n (λi=>gG n g (λ_=>0) i):=by rw[iH,bK (f:=λ_=>0) λ_ _=>rfl];grind
 have h3:∀i,i<n->∀c',c'<g.k i->gq g (λ_=>0) (i,c')=0:=λi hi c' hc'=>by have e:∀x:Nat,y7 (g.e i) 0 x=0:=λx=>Dy (hg.nn i hi).rk _;have e2:∀p,kK (g.e i) 0 p=0:=λp=>gZ λx _=>e x;unfold gq pO;rw[e,gZ λp hp=>by rw[e2];exact Dy ((hg.nn i hi).ps p hp) _];grind
 have h4:gG n g (λ_=>0) j=0:=by
  unfold gG;rw[bK λi hi=>bK λc' hc'=>by grind,gZ λd hd=>?_]
  .grind
  .have hl:=λl hl=>hg.eY l (bB.mpr ⟨d,hd,hl⟩);have e:=hg.pos d hd;have e1:aI d.2 (gq g λ_=>0)=0:=gZ λl h=>h3 l.1 (hl l h).1 l.2 (hl l h).2;have e3:ql d.1 (gq g λ_=>0) 0 d.2 j=0:=by
    have:∀t:List fC,(∀l∈t,l.1<n/\l.2<g.k l.1)->ql d.1 (gq g λ_=>0) 0 t j=0:=λt=>by
     induction t with
     |nil=>intro _;rfl
     |cons l t ih=>
      intro h
      have hh:=h l kc
      have e5:gq g (λ_=>0) l=0:=h3 l.1 hh.1 l.2 hh.2
      unfold ql
      rw[e5,show(0:Rat)+0=0 by grind,ih λu hu=>h u (by simp[hu])]
      split<;>grind
    exact this _ λl h=>hl l h
   unfold dG;rw[e1,e3];grind[jv]
 have:(vO hg).G (λ_=>0) j=gG n g (λ_=>0) j:=rfl;grind
variable {x:Nat→Rat} {t:Rat} {dist:Nat→Option Rat}
def adt(hx:Nn n x){d:Nat->Rat}(hd:Nn n d)(hD:∀i,i<n->Gt (g.e i) (g.k i) (x i) (dist i)){h:Rat}(hh:∀v∈jX n g dist x d,h<=v):Lin (vO hg) x d h:=λs h0 hs j hj=>
 ai0 hg hx hd h0 (I4 hg hx hd hD h0 λv hv=>cI hs (hh v hv)) hj
def YS(hx:Nn n x){d:Nat->Rat}(hd:Nn n d)(hD:∀i,i<n->Gt (g.e i) (g.k i) (x i) (dist i)){h:Rat}(hh:∀v∈jX n g dist x d,h<=v):Same (vO hg) x d h:=λs h0 hs j i hj hi=>
 an7 hg hx hd h0 (I4 hg hx hd hD h0 λv hv=>by grind) (afQ hg hx hd hD h0 λv hv=>by grind) hi
def afW{n:Nat}{g:GL}(hg:Jc n g){x:Nat->Rat}{dist:Nat->Option Rat}(hD:∀i,i<n->Gt (g.e i) (g.k i) (x i) (dist i)){l:List Nat}(hl:I8 n (gM n g x) l){d:Nat->Rat}(hp:∀i∈l,0<d i):jX n g dist x d≠[]:=by
 intro he;have hi0:at0 l 0∈l:=jc hl.ne;have hin:=hl.lt _ hi0;have awI:=hl.col _ hi0;generalize at0 l 0=i at*;have hn:dist i=none:=by
  cases ho:dist i with
  |none=>rfl
  |some y=>
   have:y/d i∈jX n g dist x d:=bP.mpr (.inl ((xY n).mpr ⟨i,hin,hp i hi0,y,ho,rfl⟩))
   grind
 have hs:∀c,c<g.k i->xQ (g.e i) (x i) c=0:=λc hc=>by have:=((hD i hin).no hn 0 be c hc).2;grind
 have hgs:∀l:fC,l∈g.eY->gs g x i l=0:=λl h=>by
  unfold gs;by_cases e:l.1=i
  .rw[ab e,e];have:=(hg.eY l h).2;grind
  grind
 have h0:∀j,gM n g x j i=0:=λj=>by
  unfold gM;rw[bK λc hc=>by grind[gs],gZ λd' hd'=>?_]
  .grind
  .have hz:∀l∈d'.2,gs g x i l=0:=λl h=>hgs l (bB.mpr ⟨d',hd',h⟩);have e1:aI d'.2 (gs g x i)=0:=gZ hz;have e2:jk d'.1 (gq g x) (gs g x i) 0 0 0 d'.2 j=0:=by
    have:∀(t:List fC) (Q:Rat),(∀l∈t,gs g x i l=0)->jk d'.1 (gq g x) (gs g x i) Q 0 0 t j=0:=by
     intro t;induction t with
     |nil=>intro Q _;rfl
     |cons l t ih=>
      grind[nS,jk]
    grind
   grind[dM,nS]
 grind[bK]
def ako(hc:∀j,j<n->0<=c j){least:Bool}(hI:BN hg c least x t)(hD:∀i,i<n->Gt (g.e i) (g.k i) (x i) (dist i)){l:List Nat}{d:Nat->Rat}(hp:∀i∈l,0<d i)(hz:∀i,i∉l->d i=0)(hdm:∀j,j<n->d j=mv n (gM n g x) d j)
  (hre:least=true->∀E:Nat->Prop,(∃i,i<n/\E i/\i∈l)->(∀j,j<n->E j->c j=0)->(∀j i,j<n->i<n->E j->gM n g x j i≠0->E i)->False) (ht:least=true->t<1)
  {h:Rat}(hm:h∈jX n g dist x d) (hh:∀v∈jX n g dist x d,h<=v):BN hg c least (bf x d h) t/\mu n g (bf x d h)<mu n g x:=by
 have hd:Nn n d:=λi _=>by grind
 have h0:0<=h:=dT (EC hD h hm)
 have hlin:=adt hg hI.nn hd hD hh
 have hsame:=YS hg hI.nn hd hD hh
 refine⟨⟨hI.nn.step hd h0,hI.t0,hI.t1,XP (vO hg) hI.fix hlin hdm h0 be,λhl=>?_⟩,apM hg hI.nn hd hD hh hm⟩
 refine aaM (vO hg) hI.nn hd hc h0 hI.fix hlin hsame hdm (λE ⟨i,hi,hE,hdi⟩ h1 h2=>hre hl E ⟨i,hi,hE,bp λhn=>?_⟩ h1 h2) (ht hl) (hI.least hl)
 grind
def akp(hc:∀j,j<n->0<=c j){least:Bool}(hI:BN hg c least x t)(hD:∀i,i<n->Gt (g.e i) (g.k i) (x i) (dist i)){v:Nat->Rat}(hv:Nn n v)(hvm:∀j,j<n->v j=mv n (gM n g x) v j+c j)
  (hno:∀S:Nat->Prop,(∃i,i<n/\S i)->(∀i,i<n->S i->0<v i)->¬Shut n (gM n g x) S) (ht:t<1){h:Rat}(h0:0<=h) (h1:h<=1-t) (hh:∀v'∈jX n g dist x v,h<=v'):
  BN hg c least (bf x v h) (t+h)/\mu n g (bf x v h)<=mu n g x/\(h∈jX n g dist x v->mu n g (bf x v h)<mu n g x):=by
 have hlin:=adt hg hI.nn hv hD hh
 have hsame:=YS hg hI.nn hv hD hh
 have:=hI.t0
 refine⟨⟨hI.nn.step hv h0,by grind,by grind,XO (vO hg) hI.fix hlin hvm h0 be,λhl=>aaL (vO hg) hI.nn hv hc h0 hI.fix hlin hsame hvm hno ht (hI.least hl)⟩,an9 hg hI.nn (le_step hv h0),λhm=>apM hg hI.nn hv hD hh hm⟩
structure Grt(x:Nat->Rat):Prop where
 nn:Nn n x
 fix:∀j,j<n->x j=c j+gG n g x j
 grt:∀y,Nn n y->(∀j,j<n->y j<=c j+gG n g y j)->Le n y x
structure yx(x:Nat->Rat):Prop where
 nn:Nn n x
 fix:∀j,j<n->x j=c j+gG n g x j
 lst:∀y,Nn n y->(∀j,j<n->c j+gG n g y j<=y j)->Le n x y
def akq{least:Bool}(hI:BN hg c least x 1)(hno:∀S:Nat->Prop,(∃i,i<n/\S i)->¬Shut n (gM n g x) S):Grt (n:=n) (g:=g) c x:=
 ⟨hI.nn,λj hj=>by have:=hI.fix j hj;rw[hJ]at this;exact this,λy hy hp=>XM (vO hg) hI.nn hI.fix hno hy λj hj=>by rw[hJ];exact hp j hj⟩
def atm(hI:BN hg c true x 1):yx (n:=n) (g:=g) c x:=
 ⟨hI.nn,λj hj=>by have:=hI.fix j hj;rw[hJ]at this;exact this,λy hy hp=>hI.least rfl 1 y hy (λj hj=>by rw[hJ];exact hp j hj) (.inr ⟨rfl,rfl⟩)⟩
theorem Grt.uniq{y:Nat->Rat}(h1:Grt (n:=n) (g:=g) c x)(h2:Grt (n:=n) (g:=g) c y):∀i,i<n->x i=y i:=λi hi=>by have a:=h1.grt y h2.nn (λj hj=>by rw[<-h2.fix j hj];simp) i hi;have b:=h2.grt x h1.nn (λj hj=>by rw[<-h1.fix j hj];simp) i hi;grind
end
end Go.Proofs.Ins
namespace Go.Proofs.Xe
open Go.RowKit Go.Proofs.Ins
def sz1:Sz (1:Rat):=⟨Nat.one_lt_pow jj jj,Nat.one_lt_pow jj jj⟩
def adu(a b:Rat):decide (qj a b<Int.ofNat 0)=decide (a<b):=by
 by_cases h:a<b
 .rw[bh h];exact bh (qA.mpr h)
 .rw[ap h];exact ap λh2=>h (qA.mp h2)
def aol{σ:St}(hW:WF σ){p:Nat->Prop}{mv:B}{n:Nat}{M:Nat->Nat->Rat}(hM:dR p σ.h mv n (λ_=>n) M)(hn:n<=1000){i:Nat}(hi:i<n)(hz:∀k,k<=n->Sz (aB k λj=>M j i))(hz2:∀j,j<n->Sz (M j i)):
  aC EN 108 [.c mv,.c (.int .i64 (.ofNat i))] σ λr σ'=>r=.c (.bool (decide (aB n (λj=>M j i)<1)))/\Fr σ σ':=by
 refine aN (tH.o _ _) tH.h ?_
 unfold tH
 dsimp only
 have hlen:=hM.len
 have hFr:=Fr.refl hW
 have z1:=sz1
 simp(disch:=try exact jz) only[go_sem,z3,hlen]
 refine aF (λx tm σ'=>∃j,x=n-j/\j<=n/\Tr.ah tm 1=.c (.int .i64 (.ofNat i))/\Tr.ah tm 5=.c (.ptr σ.aj 0)/\Tr.ah tm 9=.c mv/\Tr.ah tm 10=.c (.int .i64 (.ofNat n))/\Tr.ah tm 11=.c (.int .i64 (.ofNat j))
  /\σ'.h σ.aj=some ⟨[.bool (rn (aB j λj=>M j i)),.str (rs (aB j λj=>M j i)),.str (rd (aB j λj=>M j i))],none⟩/\Fr σ σ'/\σ.aj+1<=σ'.aj) n ?_ ?_
 .refine⟨0,jb,jb,?_⟩
  simp(disch:=try exact jz) only[go_sem,z3,am]
  exact⟨rfl,fr,jb⟩
 .rintro x tm σ' ⟨j,rfl,hj,t1,t5,t9,t10,t11,q5,hf,hnx⟩
  have hle:=hf.le
  have jM:=Fr.refl hf.wf
  have y1:=hz j hj
  simp(disch:=try exact jz) only[go_sem,z3,t1,t5,t9,t10,t11,aG]
  refine aH (λhlt=>?_) (λhlt=>?_)
  .obtain⟨b6,o6,c6,T,rfl,-,bZ,hT⟩:=hM.at hlt
   obtain⟨b7,o7,c7,rfl,-,dB⟩:=aY.at3 hT hi
   have bZ:=hf.ld hW bZ
   have dB:=hf.ld hW dB
   have y2:=hz2 j hlt
   have e:(aB j λj=>M j i)+M j i=aB (j+1) λj=>M j i:=rfl
   simp(disch:=try exact jz) only[go_sem,z3,t1,t5,t9,t10,t11,bZ,dB,ak q5,q5,aJ q5,e]
   exact⟨n-(j+1),jb,j+1,rfl,jb,rfl,rfl,fr,jb⟩
  .have:j=n:=jb
   subst this
   simp(disch:=try exact jz) only[go_sem,z3,t1,t5,ak q5,adu]
   exact hf
def MB{σ:St}(hW:WF σ){p p':Nat->Prop}{xv dv:B}{n:Nat}{x d:Nat->Rat}(hx:jC p σ.h xv n x)(hd:jC p' σ.h dv n d)(hn:n<=1000){h:Rat}(z1:Sz h)(zx:∀i,i<n->Sz (x i))(zd:∀i,i<n->Sz (d i))(zm:∀i,i<n->Sz (h*d i))(zs:∀i,i<n->Sz (x i+h*d i)):
  aC EN 72 [.c xv,.c dv,.agg [.bool (rn h),.str (rs h),.str (rd h)]] σ λr σ'=>Yu σ σ' r n (bf x d h)/\Fr σ σ':=by
 refine aN (tq.o _ _) tq.h ?_
 unfold tq
 dsimp only
 have hlen:=aY.len hx
 have hFr:=Fr.refl hW
 simp(disch:=try exact jz) only[go_sem,z3,hlen]
 refine aF (λy tm σ'=>∃j,y=n-j/\j<=n/\Tr.ah tm 0=.c xv/\Tr.ah tm 1=.c dv/\Tr.ah tm 5=.c (.ptr σ.aj 0)/\Tr.ah tm 7=.c (.sl (σ.aj+1) 0 n (.ex n))/\Tr.ah tm 13=.c (.int .i64 (.ofNat n))/\Tr.ah tm 14=.c (.int .i64 (.ofNat j))
  /\σ'.h σ.aj=some ⟨[.bool (rn h),.str (rs h),.str (rd h)],none⟩/\σ'.h (σ.aj+1)=some ⟨cZ n (λi=>if i<j then bf x d h i else 0),none⟩/\Fr σ σ'/\σ.aj+1+1<=σ'.aj) n ?_ ?_
 .refine⟨0,jb,jb,?_⟩
  simp(disch:=try exact jz) only[go_sem,z3,am]
  exact⟨by rw[xW],fr,jb⟩
 .rintro y tm σ' ⟨j,rfl,hj,t0,t1,t5,t7,t13,t14,q5,q7,hf,hnx⟩
  have hle:=hf.le
  have jM:=Fr.refl hf.wf
  simp(disch:=try exact jz) only[go_sem,z3,t0,t1,t5,t7,t13,t14,aG]
  refine aH (λhlt=>?_) (λhlt=>?_)
  .obtain⟨b6,o6,c6,rfl,-,bZ⟩:=aY.at3 hx hlt
   obtain⟨b7,o7,c7,rfl,-,dB⟩:=aY.at3 hd hlt
   have bZ:=hf.ld hW bZ
   have dB:=hf.ld hW dB
   have y1:=zx j hlt
   have y2:=zd j hlt
   have y3:=zm j hlt
   have y4:=zs j hlt
   have hst:=rP n j (bf x d h)
   rw[show bf x d h j=x j+h*d j from rfl]at hst
   simp(disch:=try exact jz) only[go_sem,z3,t0,t1,t5,t7,t13,t14,bZ,dB,ak q5,q5,q7,aJ q7,hst]
   exact⟨n-(j+1),jb,j+1,rfl,jb,rfl,rfl,fr,jb⟩
  .have:j=n:=jb
   subst this
   simp(disch:=try exact jz) only[go_sem,z3,t7]
   exact⟨⟨_,rfl,by rw[q7,yM],jb,jb⟩,hf⟩
abbrev YT(h:Tr Bk)(v:B)(l:List Nat):Prop:=HL h 1 v l.length λa=>[.int .i64 (.ofNat (at0 l a))]
def PD(l:List Nat)(v:Nat->Rat):Nat->Nat->Rat
 |0,_=>0
 |k+1,i=>if i=at0 l k then v k else PD l v k i
theorem afX{l:List Nat}(hn:l.Nodup)(v:Nat->Rat)(i:Nat):PD l v l.length i=pW l v i:=by
 have h1:∀k,k<=l.length->(∀a,a<k->at0 l a≠i)->PD l v k i=0:=by
  intro k;induction k with
  |zero=>intro _ _;rfl
  |succ k ih=>
   grind[PD]
 have h2:∀k a,k<=l.length->a<k->at0 l a=i->PD l v k i=v a:=by
  intro k;induction k with
  |zero=>omega
  |succ k ih=>
   grind[PD,at0,List.getElem_inj]
 grind[EH,EI,uy]
def YU{σ:St}(hW:WF σ){p:Nat->Prop}{iv vv:B}{n:Nat}{l:List Nat}{v:Nat->Rat}(hl:YT σ.h iv l)(hv:jC p σ.h vv l.length v)(hn:n<=1000)(hl1:l.length<=1000)(hln:∀i∈l,i<n):
  aC EN 111 [.c (.int .i64 (.ofNat n)),.c iv,.c vv] σ λr σ'=>Yu σ σ' r n (PD l v l.length)/\Fr σ σ':=by
 refine aN (qV.o _ _) qV.h ?_
 unfold qV
 dsimp only
 have hlen:=hl.len
 have hFr:=Fr.refl hW
 simp(disch:=try exact jz) only[go_sem,z3,hlen]
 refine aF (λy tm σ'=>∃j,y=l.length-j/\j<=l.length/\Tr.ah tm 2=.c vv/\Tr.ah tm 7=.c (.sl σ.aj 0 n (.ex n))/\Tr.ah tm 12=.c iv/\Tr.ah tm 13=.c (.int .i64 (.ofNat l.length))/\Tr.ah tm 14=.c (.int .i64 (.ofNat j))
  /\σ'.h σ.aj=some ⟨cZ n (PD l v j),none⟩/\Fr σ σ'/\σ.aj+1<=σ'.aj) l.length ?_ ?_
 .refine⟨0,jb,jb,?_⟩
  simp(disch:=try exact jz) only[go_sem,z3,am]
  exact⟨rfl,fr,jb⟩
 .rintro y tm σ' ⟨j,rfl,hj,t2,t7,t12,t13,t14,q7,hf,hnx⟩
  have hle:=hf.le
  have jM:=Fr.refl hf.wf
  simp(disch:=try exact jz) only[go_sem,z3,t2,t7,t12,t13,t14,aG]
  refine aH (λhlt=>?_) (λhlt=>?_)
  .obtain⟨b6,o6,c6,rfl,bZ⟩:=hl.one jb
   obtain⟨b7,o7,c7,rfl,-,dB⟩:=aY.at3 hv hlt
   have bZ:=hf.ld hW (bZ j hlt)
   have dB:=hf.ld hW dB
   have hin:=hln _ (jc hlt)
   have hst:cZ n (aP (PD l v j) (at0 l j) (v j))=cZ n (PD l v (j+1)):=dQ λi _=>rfl
   simp(disch:=try exact jz) only[go_sem,z3,t2,t7,t12,t13,t14,bZ,dB,q7,aJ q7,hst]
   exact⟨l.length-(j+1),jb,j+1,rfl,jb,rfl,rfl,fr,jb⟩
  .have:j=l.length:=jb
   subst this
   simp(disch:=try exact jz) only[go_sem,z3,t7]
   exact⟨⟨_,rfl,q7,jb,jb⟩,hf⟩
def bls(n:Nat)(f:Nat->Bool):List B:=ones n λi=>.bool (f i)
def adv(n:Nat)(f:Nat->Bool)(i:Nat)(b:Bool):ones n (aP (λi=>B.bool (f i)) i (.bool b))=bls n (aP f i b):=dU λk _=>by grind[aP]
def akr{σ:St}(hW:WF σ){n b:Nat}{c:Cap}{f:Nat->Bool}(hb:σ.h b=some ⟨bls n f,none⟩)(hn:n<=1000000):
  aC EN 105 [.c (.sl b 0 n c)] σ λr σ'=>(∃b' c' o',r=.c (.sl b' 0 n c')/\σ'.h b'=some ⟨bls n f,o'⟩/\plo o'=true/\Zo o'=true/\σ.aj<=b'/\b'<σ'.aj)/\Fr σ σ':=by
 refine aN (jK.o _ _) jK.h ?_
 unfold jK
 dsimp only
 have hbl:=hW.lt hb
 unfold bls at*
 by_cases h0:n=0
 .subst h0
  simp(disch:=try exact jz) only[go_sem,z3,hb]
  refine⟨⟨σ.aj,_,none,rfl,aA _ _ _,rfl,rfl,jp,cg _⟩,?_⟩
  exact fr
 .simp(disch:=try exact jz) only[go_sem,z3,hb]
  refine⟨⟨σ.aj+1,_,_,rfl,aA _ _ _,rfl,rfl,jb,cg _⟩,?_⟩
  exact fr
def afY(n:Nat)(o:Nat->Bool):Nat:=zC n λi=>if o i=true then 0 else 1
def aks{n:Nat}{o:Nat->Bool}{j:Nat}(hj:j<n)(h:o j=false):afY n (aP o j true)<afY n o:=by
 refine Vt (k:=j) n (λi _=>?_) hj ?_
 .grind[aP]
 grind[aP]
structure YV(n:Nat)(M:Nat->Nat->Rat)(fr:Nat->Prop)(o0 o:Nat->Bool)(ch:Bool):Prop where
 up:∀i,o0 i=true->o i=true
 rch:∀i,i<n->o i=true->VA n M fr i
 cnt:afY n o+(if ch=true then 1 else 0)<=afY n o0
 eq:ch=false->o=o0
def YV.set{n:Nat}{M:Nat->Nat->Rat}{fr:Nat->Prop}{o0 o:Nat->Bool}{ch:Bool}(h:YV n M fr o0 o ch){i j:Nat}(hi:i<n)(hj:j<n)(h1:o i=true)(h2:o j=false)(h3:0<M j i):YV n M fr o0 (aP o j true) true:=by
 refine⟨λk hk=>?_,λk hk ho=>?_,?_,λe=>by cases e⟩
 .unfold aP;split
  .rfl
  .exact h.up k hk
 .unfold aP at ho;by_cases e:k=j
  .subst e;exact .step (h.rch i hi h1) hj kd
  .rw[ae e]at ho;exact h.rch k hk ho
 .have a:=aks hj h2;have b:=h.cnt;grind
def adw{σ:St}(hW:WF σ){p:Nat->Prop}{mv:B}{n:Nat}{M:Nat->Nat->Rat}(hM:dR p σ.h mv n (λ_=>n) M)(hn:n<=1000)(hz:∀j i,j<n->i<n->Sz (M j i))(h0:∀j i,j<n->i<n->0<=M j i)
  {b:Nat}{c:Cap}{f:Nat->Bool}(hb:σ.h b=some ⟨bls n f,none⟩):
  aC EN 65 [.c mv,.c (.sl b 0 n c)] σ λr σ'=>(∃b' c' o' g,r=.c (.sl b' 0 n c')/\σ'.h b'=some ⟨bls n g,o'⟩/\Zo o'=true/\b'<σ'.aj/\∀i,i<n->(g i=true↔VA n M (λi=>f i=true) i))/\Fr σ σ':=by
 refine aN (sZ.o _ _) sZ.h ?_
 unfold sZ
 dsimp only
 have hlen:=hM.len
 simp(disch:=try exact jz) only[go_sem,z3]
 refine(akr hW hb jb).mono ?_
 rintro _ σ1 ⟨⟨b1,c1,o1,rfl,hb1,hpl,hrd,hl1,hl2⟩,hf1⟩
 have hnx1:=hf1.le
 simp(disch:=try exact jz) only[go_sem,z3]
 refine aF (λq tm σ'=>∃o ch,q=afY n o+(if ch=true then 1 else 0)/\Tr.ah tm 0=.c mv/\Tr.ah tm 5=.c (.sl b1 0 n c1)/\Tr.ah tm 6=.c (.bool ch)/\σ'.h b1=some ⟨bls n o,o1⟩/\Fr σ σ'
  /\(∀i,f i=true->o i=true)/\(∀i,i<n->o i=true->VA n M (λi=>f i=true) i)/\(ch=false->∀i j,i<n->j<n->o i=true->0<M j i->o j=true)) (afY n f+1) ?_ ?_
 .refine⟨f,true,rfl,?_⟩
  simp(disch:=try exact jz) only[go_sem,z3,am]
  exact⟨hb1,hf1,λ_ h=>h,λi hi h=>.base h hi,λe=>by cases e⟩
 .rintro q tm σ' ⟨o,ch,rfl,t0,t5,t6,q1,hf,hup,hrc,hcl⟩
  cases ch with
  |false=>
   simp(disch:=try exact jz) only[go_sem,z3,t0,t5,t6]
   refine⟨⟨b1,c1,o1,o,rfl,q1,hrd,hf.wf.lt q1,λi hi=>⟨hrc i hi,λh=>?_⟩⟩,hf⟩
   exact h.sub (S:=λi=>o i=true) (λi _ h=>hup i h) λi j hi hj h1 h2=>hcl rfl i j hi hj h1 kd
  |true=>
   simp(disch:=try exact jz) only[go_sem,z3,t0,t5,t6,hlen]
   refine aF (λq tm σ2=>∃j o' ch,q=n-j/\j<=n/\Tr.ah tm 0=.c mv/\Tr.ah tm 5=.c (.sl b1 0 n c1)/\Tr.ah tm 6=.c (.bool ch)/\Tr.ah tm 14=.c mv/\Tr.ah tm 15=.c (.int .i64 (.ofNat n))/\Tr.ah tm 16=.c (.int .i64 (.ofNat j))/\σ2.h b1=some ⟨bls n o',o1⟩/\Fr σ σ2
    /\YV n M (λi=>f i=true) o o' ch/\(ch=false->∀i j',i<n->j'<j->o i=true->0<M j' i->o j'=true)) n ?_ ?_
   .refine⟨0,o,false,jb,jb,?_⟩
    simp(disch:=try exact jz) only[go_sem,z3,t0,t5,am]
    exact⟨q1,hf,⟨λ_ h=>h,hrc,by simp,λ_=>rfl⟩,λ_ i j' _ h=>absurd h jb⟩
   .rintro q VX σ2 ⟨j,o',ch,rfl,hj,t0,t5,t6,t14,t15,t16,q2,hf2,hP,hc2⟩
    simp(disch:=try exact jz) only[go_sem,z3,t0,t5,t6,t14,t15,t16,aG]
    refine aH (λhlt=>?_) (λhlt=>?_)
    .obtain⟨b6,o6,c6,T,rfl,-,bZ,hT⟩:=hM.at hlt
     have bZ:=hf2.ld hW bZ
     have hTl:=aY.len hT
     simp(disch:=try exact jz) only[go_sem,z3,t0,t5,t6,t14,t15,t16,bZ,hTl]
     refine aF (λq tm σ3=>∃i o' ch,q=n-i/\i<=n/\Tr.ah tm 0=.c (.sl b6 o6 n c6)/\Tr.ah tm 5=.c (.sl b1 0 n c1)/\Tr.ah tm 6=.c (.bool ch)/\Tr.ah tm 7=.c (.int .i64 (.ofNat j))/\Tr.ah tm 14=.c (.sl b6 o6 n c6)/\Tr.ah tm 15=.c (.int .i64 (.ofNat n))/\Tr.ah tm 16=.c (.int .i64 (.ofNat j))
      /\Tr.ah tm 21=.c T/\Tr.ah tm 22=.c (.int .i64 (.ofNat n))/\Tr.ah tm 23=.c (.int .i64 (.ofNat i))/\σ3.h b1=some ⟨bls n o',o1⟩/\Fr σ σ3
      /\YV n M (λi=>f i=true) o o' ch/\(ch=false->(∀i j',i<n->j'<j->o i=true->0<M j' i->o j'=true)/\∀i',i'<i->o i'=true->0<M j i'->o j=true)) n ?_ ?_
     .refine⟨0,o',ch,jb,jb,?_⟩
      simp(disch:=try exact jz) only[go_sem,z3,t0,t5,t6,t14,t15,t16,am]
      exact⟨q2,hf2,hP,λe=>⟨hc2 e,λi' h=>absurd h jb⟩⟩
     .rintro q tm3 σ3 ⟨i,o',ch,rfl,hi,t0,t5,t6,t7,t14,t15,t16,t21,t22,t23,q3,hf3,hP,hc3⟩
      simp(disch:=try exact jz) only[go_sem,z3,t0,t5,t6,t7,t14,t15,t16,t21,t22,t23,aG]
      refine aH (λhli=>?_) (λhli=>?_)
      .obtain⟨b7,o7,c7,rfl,-,dB⟩:=aY.at3 hT hli
       have dB:=hf3.ld hW dB
       have hb7:=hf3.wf.bV dB
       have aAj:=hf3.wf.lt q3
       have hle3:=hf3.le
       have z2:=hz j i hlt hli
       have hFr:=Fr.refl hf3.wf
       have hkeep:(ch=false->¬(o' i=true/\o' j=false/\0<M j i))->ch=false->(∀i j',i<n->j'<j->o i=true->0<M j' i->o j'=true)/\∀i',i'<i+1->o i'=true->0<M j i'->o j=true:=λhno e=>by
        refine⟨(hc3 e).1,λi' h1 h2 h3=>?_⟩;rcases et.mp h1 with h|rfl
        .exact(hc3 e).2 i' h h2 h3
        .have:=hno e;rw[hP.eq e]at this;cases hoj:o j with
         |true=>rfl
         |false=>exact absurd ⟨h2,hoj,h3⟩ this
       unfold bls at q3
       cases hoi:o' i with
       |false=>
        simp(disch:=try exact jz) only[go_sem,z3,t0,t5,t6,t7,t14,t15,t16,t21,t22,t23,dB,ak q3,hrd,hoi]
        exact⟨n-(i+1),jb,i+1,o',ch,rfl,jb,rfl,rfl,q3,fr,hP,hkeep λ_ h=>by rw[hoi]at h;cases h.1⟩
       |true=>
        cases hoj:o' j with
        |true=>
         simp(disch:=try exact jz) only[go_sem,z3,t0,t5,t6,t7,t14,t15,t16,t21,t22,t23,dB,ak q3,hrd,hoi,hoj]
         exact⟨n-(i+1),jb,i+1,o',ch,rfl,jb,rfl,rfl,q3,fr,hP,hkeep λ_ h=>by rw[hoj]at h;cases h.2.1⟩
        |false=>
         by_cases hm:0<M j i
         .have hst:=adv n o' j true
          simp(disch:=try exact jz) only[go_sem,z3,t0,t5,t6,t7,t14,t15,t16,t21,t22,t23,dB,ak q3,hrd,hoi,hoj,hm,aJ q3,q3,hpl,hst]
          exact⟨n-(i+1),jb,i+1,aP o' j true,true,rfl,jb,rfl,rfl,rfl,fr,hP.set hli hlt hoi hoj hm,λe=>by cases e⟩
         .simp(disch:=try exact jz) only[go_sem,z3,t0,t5,t6,t7,t14,t15,t16,t21,t22,t23,dB,ak q3,hrd,hoi,hoj,hm]
          exact⟨n-(i+1),jb,i+1,o',ch,rfl,jb,rfl,rfl,q3,fr,hP,hkeep λ_ h=>hm h.2.2⟩
      .have:i=n:=jb
       subst this
       simp(disch:=try exact jz) only[go_sem,z3,t0,t5,t6,t7,t14,t15,t16]
       refine⟨i-(j+1),jb,j+1,o',ch,rfl,jb,rfl,rfl,q3,hf3,hP,λe k j' hk hj' h1 h2=>?_⟩
       rcases et.mp hj' with h|rfl
       .exact(hc3 e).1 k j' hk h h1 h2
       .exact(hc3 e).2 k hk h1 h2
    .have:j=n:=jb
     subst this
     simp(disch:=try exact jz) only[go_sem,z3,t0,t5,t6]
     have hcnt:=hP.cnt
     refine⟨_,?_,o',ch,rfl,rfl,q2,hf2,λi h=>hP.up i (hup i h),hP.rch,λe i j hi hj h1 h2=>?_⟩
     .rw[ab trivial];omega
     .have he:=hP.eq e
      rw[he]at h1⊢
      exact hc2 e i j hi hj h1 h2
def ig(f:Nat->Bool):Nat->List Nat
 |0=>[]
 |k+1=>if f k=true then ig f k++[k]else ig f k
def Af(f:Nat->Bool)(i:Nat):∀n,i∈ig f n↔i<n/\f i=true
 |0=>by unfold ig;simp
 |n+1=>by
  have ih:=Af f i n;unfold ig;by_cases h:f n=true
  .rw[ab h,bP,ih,dc];constructor
   .rintro(⟨a,b⟩|rfl)
    .exact⟨jb,b⟩
    .exact⟨jb,h⟩
   .rintro⟨a,b⟩;rcases et.mp a with c|rfl
    .exact .inl ⟨c,b⟩
    .exact .inr rfl
  .rw[ae h,ih];constructor
   .rintro⟨a,b⟩;exact⟨jb,b⟩
   .rintro⟨a,b⟩;rcases et.mp a with c|rfl
    .exact⟨c,b⟩
    .exact absurd b h
def Gv(f:Nat->Bool):∀n,(ig f n).Nodup
 |0=>List.nodup_nil
 |n+1=>by
  have ih:=Gv f n;unfold ig;split
  .refine eZ.mpr ⟨ih,by simp,λa ha b hb=>?_⟩;rw[dc]at hb;have:=(Af f a n).mp ha;omega
  .exact ih
def I9(f:Nat->Bool):∀n,(ig f n).length<=n
 |0=>jp
 |n+1=>by
  have ih:=I9 f n;unfold ig;split
  .rw[aD,bL];omega
  .omega
def YW(f:Nat->Bool){j:Nat}:∀n,j<=n->(ig f j).length<=(ig f n).length/\∀a,a<(ig f j).length->at0 (ig f n) a=at0 (ig f j) a
 |0,h=>by grind
 |n+1,h=>by
  rcases fH j (n+1)with h2|h2
  .obtain⟨i1,i2⟩:=YW f n (by omega:j<=n);rw[show ig f (n+1)=if f n=true then ig f n++[n]else ig f n from rfl];split
   .refine⟨by rw[aD];omega,λa ha=>?_⟩;rw[yN,ab jb];exact i2 a ha
   .exact⟨i1,i2⟩
  .rw[show j=n+1 by omega];exact⟨jp,λ_ _=>rfl⟩
def adx(f:Nat->Bool){j n:Nat}(hj:j<n)(h:f j=true):at0 (ig f n) (ig f j).length=j:=by have e:ig f (j+1)=ig f j++[j]:=ab h;rw[(YW f n (show j+1<=n by omega)).2 _ kd,e,yN,ae jb,ab rfl]
def PE{f g:Nat->Bool}:∀n,(∀i,i<n->f i=g i)->ig f n=ig g n
 |0,_=>rfl
 |n+1,h=>by unfold ig;rw[PE n λi hi=>h i jb,h n jb]
theorem VA.imp{n:Nat}{M:Nat->Nat->Rat}{fr fr':Nat->Prop}(hf:∀i,fr i->fr' i){i:Nat}(h:VA n M fr i):VA n M fr' i:=by
 induction h with
 |base h hi=>exact .base (hf _ h) hi
 |step _ hj hm ih=>exact .step ih hj hm
open Classical in
noncomputable def rX(n:Nat)(M:Nat->Nat->Rat)(fr:Nat->Prop):List Nat:=ig (λk=>decide (VA n M fr k)) n
open Classical in
def MC(n:Nat)(M:Nat->Nat->Rat)(fr:Nat->Prop):RList n M fr (rX n M fr):=
 ⟨Gv _ _,λi=>by unfold rX;rw[Af,eV];exact⟨λh=>h.2,λh=>⟨h.lt,h⟩⟩⟩
open Classical in
def aom{n:Nat}{M:Nat->Nat->Rat}{fr fr':Nat->Prop}{g:Nat->Bool}(hg:∀i,i<n->(g i=true↔VA n M fr' i))(hf:∀i,fr' i↔fr i):ig g n=rX n M fr:=PE n λi hi=>by grind[VA.imp]
def Gw(l:List Nat)(a:Nat):List B:=[.int .i64 (.ofNat (at0 l a))]
def akt{σ:St}(hW:WF σ){n:Nat}{v:B}{f:Nat->Bool}(hv:HL σ.h 1 v n λi=>[.bool (f i)])(hn:n<=1000):
  aC EN 70 [.c v] σ λr σ'=>(∃b,r=.c (aU (ig f n).length b)/\NF NoQ σ'.h b (ig f n).length (Gw (ig f n)) 1 3 σ.aj σ'.aj)/\Fr σ σ':=by
 refine aN (vk.o _ _) vk.h ?_
 unfold vk
 dsimp only
 have hlv:=hv.len
 have hlk:=hv.kn
 have hL:LG (Gw (ig f n)) 1:=λ_=>rfl
 simp(disch:=try exact jz) only[go_sem,z3,hlv]
 refine aF (λx tm σ'=>∃j b,x=n-j/\j<=n/\Tr.ah tm 3=.c (aU (ig f j).length b)/\Tr.ah tm 6=.c v/\Tr.ah tm 7=.c (.int .i64 (.ofNat n))/\Tr.ah tm 8=.c (.int .i64 (.ofNat j))
  /\NF NoQ σ'.h b (ig f j).length (Gw (ig f n)) 1 3 σ.aj σ'.aj/\Fr σ σ') n ?_ ?_
 .refine⟨0,σ.aj,jb,jb,?_⟩
  simp(disch:=try exact jz) only[go_sem,z3,am]
  exact⟨rfl,NF.nil hL,Fr.refl hW⟩
 .rintro x tm σ' ⟨j,b,rfl,hj,t3,t6,t7,t8,hN,hf⟩
  have hle:=hf.le
  have hg:=hN.g
  have hl1:=hN.l1
  have hl2:=hN.l2
  simp(disch:=try exact jz) only[go_sem,z3,t3,t6,t7,t8,aG]
  refine aH (λhlt=>?_) (λhlt=>?_)
  .obtain⟨bb,o,c,rfl,hld⟩:=hv.one jb
   have hld:=hf.ld hW (hld j hlt)
   have hlen:=I9 f j
   cases hfj:f j with
   |false=>
    rw[hfj]at hld
    have e:ig f (j+1)=ig f j:=ae kd
    simp(disch:=try exact jz) only[go_sem,z3,t3,t6,t7,t8,hld]
    exact⟨n-(j+1),jb,j+1,b,rfl,jb,by rw[e],rfl,by grind,hf⟩
   |true=>
    rw[hfj]at hld
    have e:ig f (j+1)=ig f j++[j]:=ab hfj
    have e2:(ig f (j+1)).length=(ig f j).length+1:=by grind
    have hat:=adx f hlt hfj
    have jM:=Fr.refl hf.wf
    simp(disch:=try exact jz) only[go_sem,z3,t3,t6,t7,t8,hld,hg]
    refine⟨n-(j+1),jb,j+1,σ'.aj+1,rfl,jb,by rw[e2];rfl,rfl,?_,fr⟩
    rw[e2]
    refine hN.push (hi1:=σ'.aj) (h1:=σ'.h) (λ_ _=>Kz _) (λ_ _ _ _ h=>h) trivial (λ_ _ _=>rfl) jp jb jb jb (aA _ _ _) ?_ (λc h1 h2 h3=>?_) (λ_ _=>rfl) hL
    .grind[Gw]
    grind[au,iq]
  .have:j=n:=jb
   subst this
   simp(disch:=try exact jz) only[go_sem,z3,t3]
   grind
def YX:decide (Int.ofNat 0<=Int.negSucc 0)=false:=by decide
def afZ{σ:St}(hW:WF σ){p:Nat->Prop}{mv iv:B}{n:Nat}{M:Nat->Nat->Rat}(hM:dR p σ.h mv n (λ_=>n) M)(hn:n<=1000)(hz:∀i k,i<n->k<=n->Sz (aB k λj=>M j i))(hz2:∀j i,j<n->i<n->Sz (M j i)){l:List Nat}(hl:YT σ.h iv l)(hl1:l.length<=1000)(hln:∀i∈l,i<n)
  {cb:Nat}(hc:σ.h cb=some ⟨[mv],none⟩):
  aC EN 106 [.c iv,.fn 107 [.ptr cb 0]] σ λr σ'=>(∃d:Bool,r=.c (.bool d)/\(d=false↔Dry n M l))/\Fr σ σ':=by
 refine aN (iO.o _ _) iO.h ?_
 unfold iO
 dsimp only
 have hlen:=hl.len
 have hmk:=hM.kn
 have hcl:=λ(args:List V) (σ:St) (K:V->St->Prop)=>kT (E:=EN) (K:=K) (ou.o args σ) ou.h
 unfold ou at hcl
 dsimp only at hcl
 have hif:=λ(args:List V) (σ:St) (K:V->St->Prop)=>kT (E:=EN) (K:=K) (jg.o args σ) jg.h
 unfold jg at hif
 dsimp only at hif
 simp(disch:=try exact jz) only[go_sem,z3,hif,hlen]
 refine aF (λq tm σ'=>∃j,q=l.length-j/\j<=l.length/\Tr.ah tm 0=.c iv/\Tr.ah tm 1=.fn 107 [.ptr cb 0]/\Tr.ah tm 7=.c (.int .i64 (.ofNat l.length))/\Tr.ah tm 8=.c (.int .i64 (.ofNat j))/\(∀a,a<j->¬aB n (λj=>M j (at0 l a))<1)/\Fr σ σ') l.length ?_ ?_
 .refine⟨0,jb,jb,?_⟩
  simp(disch:=try exact jz) only[go_sem,z3,am]
  grind[Fr.refl]
 .rintro q tm σ' ⟨j,rfl,hj,t0,t1,t7,t8,hd,hf⟩
  have jM:=Fr.refl hf.wf
  simp(disch:=try exact jz) only[go_sem,z3,t0,t1,t7,t8,aG]
  refine aH (λhlt=>?_) (λhlt=>?_)
  .obtain⟨bb,o,c,rfl,hld⟩:=hl.one jb
   have hld:=hf.ld hW (hld j hlt)
   have hc':=hf.get hW hc
   have hin:=hln _ (jc hlt)
   simp(disch:=try exact jz) only[go_sem,z3,t0,t1,t7,t8,hld,hcl,ak hc',hmk]
   refine(aol hf.wf (hM.fr hW hf) hn hin (λk hk=>hz _ k hin hk) λj hj=>hz2 j _ hj hin).mono ?_
   rintro _ σ2 ⟨rfl,hf2⟩
   have hf3:=hf.trans hf2
   simp(disch:=try exact jz) only[go_sem,z3,t0,t1,t7,t8]
   refine aH (λhs=>?_) (λhs=>?_)
   .simp(disch:=try exact jz) only[go_sem,z3,t0,t1,t7,t8,show decide (Int.ofNat 0<=Int.ofNat j)=true from bh kc]
    exact⟨⟨_,rfl,⟨λh=>(by cases h),λh=>absurd hs (h _ (jc hlt))⟩⟩,hf3⟩
   .simp(disch:=try exact jz) only[go_sem,z3,t0,t1,t7,t8]
    refine⟨l.length-(j+1),jb,j+1,rfl,jb,rfl,λa ha=>?_,hf3⟩
    rcases et.mp ha with h|rfl
    .grind
    omega
  .have:j=l.length:=jb
   subst this
   simp(disch:=try exact jz) only[go_sem,z3,t0,YX]
   refine⟨⟨_,rfl,⟨λ_ i hi=>?_,λ_=>rfl⟩⟩,hf⟩
   grind[EH]
def Ja(n:Nat)(M:Nat->Nat->Rat)(of:Nat->Bool)(j:Nat)(h:Tr Bk)(v:B)(hi:Nat):Prop:=
 (v=.aX/\∀k,k<j->of k=true->¬Dry n M (rX n M λi=>i=k))\/
 ∃i,i<j/\of i=true/\Dry n M (rX n M λk=>k=i)/\(∀k,k<j->of k=true->Dry n M (rX n M λi=>i=k)->(rX n M λk=>k=i).length<=(rX n M λi=>i=k).length)
  /\(∃b,v=.sl b 0 (rX n M λk=>k=i).length .opn)/\aY (λb=>b<hi) h 1 v (rX n M λk=>k=i).length (Gw (rX n M λk=>k=i))
def Ja.no{n:Nat}{M:Nat->Nat->Rat}{of:Nat->Bool}{j:Nat}{v:B}{σ σ':St}(hB:Ja n M of j σ.h v σ.aj)(hf:Fr σ σ')(hno:of j=true->¬Dry n M (rX n M λi=>i=j)):Ja n M of (j+1) σ'.h v σ'.aj:=by
 have hle:=hf.le;rcases hB with⟨rfl,h⟩|⟨i,h1,h2,h3,h4,h5,h6⟩
 .refine .inl ⟨rfl,λk hk ho=>?_⟩;grind
 .refine .inr ⟨i,jb,h2,h3,λk hk ho hd=>?_,h5,h6.keep (λb hb=>hf.old b hb) λb hb=>aL hb hle⟩;grind
def Ja.get{n:Nat}{M:Nat->Nat->Rat}{of:Nat->Bool}{j:Nat}{v:B}{h:Tr Bk}{hi:Nat}(ho:of j=true)(hd:Dry n M (rX n M λi=>i=j))(hmin:∀k,k<j->of k=true->Dry n M (rX n M λi=>i=k)->(rX n M λk=>k=j).length<=(rX n M λi=>i=k).length)
  (hv:∃b,v=.sl b 0 (rX n M λk=>k=j).length .opn) (hH:aY (λb=>b<hi) h 1 v (rX n M λk=>k=j).length (Gw (rX n M λk=>k=j))):Ja n M of (j+1) h v hi:=by
 refine .inr ⟨j,jb,ho,hd,λk hk hok hdk=>?_,hv,hH⟩
 grind
def abB{h:Tr Bk}{b n:Nat}{c:Cap}{f:Nat->Bool}{o:Option (Nat×Nat)}(hb:h b=some ⟨bls n f,o⟩)(ho:Zo o=true):HL h 1 (.sl b 0 n c) n λi=>[.bool (f i)]:=by refine .inr ⟨b,0,c,rfl,λi hi=>?_⟩;rw[ak hb,NV];dsimp only;rw[ho,cM];unfold bls ones;have:=yT (e:=1) (k:=0) (m:=1) (G:=λi=>[B.bool (f i)]) true (λ_=>rfl) hi jj jj;rw[cD]at this;rw[this];rfl
def aku{σ:St}(hW:WF σ){p:Nat->Prop}{mv ov:B}{n:Nat}{M:Nat->Nat->Rat}(hM:dR p σ.h mv n (λ_=>n) M)(hn:n<=1000)(hz:∀i k,i<n->k<=n->Sz (aB k λj=>M j i))(hz2:∀j i,j<n->i<n->Sz (M j i))(h0:∀j i,j<n->i<n->0<=M j i)
  {of:Nat->Bool}(ho:HL σ.h 1 ov n λi=>[.bool (of i)]):
  aC EN 67 [.c mv,.c ov] σ λr σ'=>(∃v,r=.c v/\Ja n M of n σ'.h v σ'.aj)/\Fr σ σ':=by
 refine aN (qP.o _ _) qP.h ?_
 unfold qP
 dsimp only
 have hlen:=ho.len
 have hok:=ho.kn
 have hmk:=hM.kn
 simp(disch:=try exact jz) only[go_sem,z3,hlen,hmk]
 refine aF (λx tm σ'=>∃j bv,x=n-j/\j<=n/\Tr.ah tm 1=.c ov/\Tr.ah tm 2=.c (.ptr σ.aj 0)/\Tr.ah tm 5=.c bv/\Tr.ah tm 10=.c ov/\Tr.ah tm 11=.c (.int .i64 (.ofNat n))/\Tr.ah tm 12=.c (.int .i64 (.ofNat j))
  /\σ'.h σ.aj=some ⟨[mv],none⟩/\Ja n M of j σ'.h bv σ'.aj/\Fr σ σ'/\σ.aj+1<=σ'.aj) n ?_ ?_
 .refine⟨0,.aX,jb,jb,?_⟩
  simp(disch:=try exact jz) only[go_sem,z3,am]
  exact⟨.inl ⟨rfl,λk h=>absurd h jb⟩,fr,jb⟩
 .rintro x tm σ' ⟨j,bv,rfl,hj,t1,t2,t5,t10,t11,t12,q2,hB,hf,hnx⟩
  have hle:=hf.le
  have jM:=Fr.refl hf.wf
  simp(disch:=try exact jz) only[go_sem,z3,t1,t2,t5,t10,t11,t12,aG]
  refine aH (λhlt=>?_) (λhlt=>?_)
  .obtain⟨bb,o,c,rfl,hld⟩:=ho.one jb
   have hld:=hf.ld hW (hld j hlt)
   cases hoj:of j with
   |false=>
    rw[hoj]at hld
    simp(disch:=try exact jz) only[go_sem,z3,t1,t2,t5,t10,t11,t12,hld]
    exact⟨n-(j+1),jb,j+1,bv,rfl,jb,rfl,rfl,q2,hB.no jM (λh=>by rw[hoj]at h;cases h),hf,hnx⟩
   |true=>
    rw[hoj]at hld
    simp(disch:=try exact jz) only[go_sem,z3,t1,t2,t5,t10,t11,t12,hld,hlen,ak q2,hmk]
    refine aC.st (Fr σ') (fr) λhF3=>?_
    have hst:=adv n (λ_=>false) j true
    refine(adw hF3.wf (hM.fr hW (hf.trans hF3)) hn hz2 h0 (b:=σ'.aj) (f:=aP (λ_=>false) j true) ((aA _ _ _).trans (cf (λl=>some (Bk.mk l none)) hst))).mono ?_
    rintro _ σ2 ⟨⟨b2,c2,o2,g,rfl,hb2,ay0,hlt2,hg⟩,hf2⟩
    have hRL:ig g n=rX n M λk=>k=j:=aom hg λi=>by
     unfold aP;by_cases e:i=j
     .rw[ab e];exact⟨λ_=>e,λ_=>rfl⟩
     .rw[ae e];exact⟨λh=>(by cases h),λh=>absurd h e⟩
    have ni:=hF3.trans hf2
    simp(disch:=try exact jz) only[go_sem,z3,t1,t2,t5,t10,t11,t12]
    refine(akt hf2.wf (abB hb2 ay0) hn).mono ?_
    rintro _ σ3 ⟨⟨b3,rfl,hN3⟩,hf3⟩
    have hok:=MC n M λk=>k=j
    have hl1:=I9 g n
    rw[hRL]at hN3 hl1
    rw[hRL]
    have hpos:0<(rX n M λk=>k=j).length:=List.length_pos_of_mem ((hok.mem j).mpr (.base rfl hlt))
    have hH:=hN3.hlp jb (λ_ _=>rfl) (p:=λb=>b<σ3.aj) λb _ h=>h
    have ay1:aU (rX n M λk=>k=j).length b3=.sl b3 0 (rX n M λk=>k=j).length .opn:=by
     generalize (rX n M λk=>k=j).length=m at hpos;cases m with
     |zero=>omega
     |succ m=>rfl
    rw[ay1]at hH⊢
    have iw:=ni.trans hf3
    have q3:=iw.get hf.wf q2
    simp(disch:=try exact jz) only[go_sem,z3,t1,t2,t5,t10,t11,t12]
    refine(afZ hf3.wf (hM.fr hW (hf.trans iw)) hn hz hz2 hH.hl jb hok.lt q3).mono ?_
    rintro _ σ4 ⟨⟨d,rfl,hd⟩,hf4⟩
    have jF:=iw.trans hf4
    have su:=hf.trans jF
    have hl6:=jF.le
    have q4:=hf4.get hf3.wf q3
    have hl4:=hf4.le
    have hH4:aY (λb=>b<σ4.aj) σ4.h 1 (.sl b3 0 (rX n M λk=>k=j).length .opn) (rX n M λk=>k=j).length (Gw (rX n M λk=>k=j)):=hH.keep (λb hb=>hf4.old b hb) λb hb=>aL hb hl4
    cases d with
    |true=>
     simp(disch:=try exact jz) only[go_sem,z3,t1,t2,t5,t10,t11,t12]
     exact⟨n-(j+1),jb,j+1,bv,rfl,jb,rfl,rfl,q4,hB.no jF (λ_ h=>by have:=hd.mpr h;cases this),su,jb⟩
    |false=>
     have aon:=hd.mp rfl
     rcases hB with⟨rfl,hnb⟩|⟨i,h1,h2,h3,h4,⟨bi,rfl⟩,h6⟩
     .simp(disch:=try exact jz) only[go_sem,z3,t1,t2,t5,t10,t11,t12]
      exact⟨n-(j+1),jb,j+1,_,rfl,jb,rfl,rfl,q4,Ja.get hoj aon (λk hk ho hdk=>absurd hdk (hnb k hk ho)) ⟨_,rfl⟩ hH4,su,jb⟩
     .simp(disch:=try exact jz) only[go_sem,z3,t1,t2,t5,t10,t11,t12,aG]
      refine aH (λhs=>?_) (λhs=>?_)
      .simp(disch:=try exact jz) only[go_sem,z3,t1,t2,t5,t10,t11,t12]
       exact⟨n-(j+1),jb,j+1,_,rfl,jb,rfl,rfl,q4,Ja.get hoj aon (λk hk ho hdk=>az (gx hs) (h4 k hk ho hdk)) ⟨_,rfl⟩ hH4,su,jb⟩
      .simp(disch:=try exact jz) only[go_sem,z3,t1,t2,t5,t10,t11,t12]
       refine⟨n-(j+1),jb,j+1,_,rfl,jb,rfl,rfl,q4,.inr ⟨i,jb,h2,h3,λk hk ho hdk=>?_,⟨_,rfl⟩,h6.keep (λb hb=>jF.old b hb) λb hb=>aL hb hl6⟩,su,jb⟩
       rcases et.mp hk with h'|rfl
       .exact h4 k h' ho hdk
       .omega
  .have:j=n:=jb
   subst this
   simp(disch:=try exact jz) only[go_sem,z3,t5]
   exact⟨⟨_,rfl,hB⟩,hf⟩
end Go.Proofs.Xe
