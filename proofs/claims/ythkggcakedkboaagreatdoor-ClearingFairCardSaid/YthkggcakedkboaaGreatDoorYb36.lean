import Derived.Test.YthkggcakedkboaaGreatDoorYb35
set_option linter.all false
set_option maxRecDepth 100000
set_option maxHeartbeats 8000000
namespace Go.Proofs.Ins
inductive Vf(n:Nat)(M:Nat->Nat->Rat)(fr:Nat->Prop):Nat->Prop where
 |base {i:Nat}(h:fr i) (hi:i<n):Vf n M fr i
 |step {i j:Nat}(h:Vf n M fr i) (hj:j<n) (hm:M j i≠0):Vf n M fr j
section
variable {n:Nat} {M:Nat→Nat→Rat}
def Vf.lt{fr:Nat->Prop}{i:Nat}(h:Vf n M fr i):i<n:=by cases h<;>assumption
def Vf.sub{fr S:Nat->Prop}(h0:∀i,i<n->fr i->S i)(hS:∀i j,i<n->j<n->S i->M j i≠0->S j){i:Nat}(h:Vf n M fr i):S i:=by
 induction h with
 |base h hi=>grind
 |step h hj hm ih=>exact hS _ _ h.lt hj ih hm
def Shut.rch{S:Nat->Prop}(hS:Shut n M S){i:Nat}(hi:S i){j:Nat}(h:Vf n M (λk=>k=i) j):S j:=
 h.sub (λk _ e=>by grind) λa b ha hb hSa hm=>br λhn=>hm ((hS a ha hSa).2 b hb hn)
structure RList(n:Nat)(M:Nat->Nat->Rat)(fr:Nat->Prop)(l:List Nat):Prop where
 nodup:l.Nodup
 mem:∀i,i∈l↔Vf n M fr i
def RList.anL{fr:Nat->Prop}{l:List Nat}(h:RList n M fr l):Va n M l:=λi hi j hj hn=>br λhm=>hn ((h.mem j).mpr (.step ((h.mem i).mp hi) hj hm))
def RList.lt{fr:Nat->Prop}{l:List Nat}(h:RList n M fr l):∀i∈l,i<n:=λi hi=>((h.mem i).mp hi).lt
structure IJ(n:Nat)(M:Nat->Nat->Rat)(l:List Nat):Prop where
 nodup:l.Nodup
 lt:∀i∈l,i<n
 ne:0<l.length
 anL:Va n M l
 col:∀i∈l,aB n (λj=>M j i)=1
 min:∀S:Nat->Prop,(∃i,i<n/\S i)->(∀i,i<n->S i->i∈l)->Shut n M S->∀i∈l,S i
def Dry(n:Nat)(M:Nat->Nat->Rat)(l:List Nat):Prop:=∀i∈l,¬aB n (λj=>M j i)<1
def ajK(hM:Kq n M){of:Nat->Prop}(hof:∀i j,i<n->j<n->of i->M j i≠0->of j){R:Nat->List Nat}(hR:∀i,i<n->of i->RList n M (λk=>k=i) (R i)){i:Nat}(hi:i<n)(hoi:of i)(hd:Dry n M (R i))
  (hmin:∀k,k<n->of k->Dry n M (R k)->(R i).length<=(R k).length):IJ n M (R i):=by
 have hr:=hR i hi hoi
 have hii:i∈R i:=(hr.mem i).mpr (.base rfl hi)
 have av4:∀k∈R i,aB n (λj=>M j k)=1:=λk hk=>by have a:=hd k hk;have b:=hM.le k (hr.lt k hk);grind
 refine⟨hr.nodup,hr.lt,List.length_pos_of_mem hii,hr.anL,av4,λS ⟨k,hk,hSk⟩ hsub hS a ha=>?_⟩
 have hki:k∈R i:=hsub k hk hSk
 have hok:of k:=((hr.mem k).mp hki).sub (S:=of) (λj _ e=>by grind) hof
 have hrk:=hR k hk hok
 have ao7:∀b∈R k,S b:=λb hb=>hS.rch hSk ((hrk.mem b).mp hb)
 have hsub2:∀b∈R k,b∈R i:=λb hb=>hsub b (hrk.lt b hb) (ao7 b hb)
 have hlen:=hmin k hk hok λb hb=>by grind
 refine ao7 a (br λhna=>?_)
 have h1:(a::R k).length<=(R i).length:=by have:(a::R k).Nodup:=gm.mpr ⟨hna,hrk.nodup⟩;refine this.length_le_of_subset λb hb=>?_;grind
 grind
def ajL{of:Nat->Prop}{R:Nat->List Nat}(hR:∀i,i<n->of i->RList n M (λk=>k=i) (R i))(hno:∀k,k<n->of k->¬Dry n M (R k)):∀S:Nat->Prop,(∃i,i<n/\S i)->(∀i,i<n->S i->of i)->¬Shut n M S:=
 λS ⟨k,hk,hSk⟩ hsub hS=>hno k hk (hsub k hk hSk) λb hb=>by have hr:=hR k hk (hsub k hk hSk);rw[(hS b (hr.lt b hb) (hS.rch hSk ((hr.mem b).mp hb))).1];decide
end
section
variable {n:Nat} {g:GL} (hg:IV n g) (c:Nat→Rat)
structure BF(least:Bool)(x:Nat->Rat)(t:Rat):Prop where
 nn:Nn n x
 t0:0<=t
 t1:t<=1
 fix:Fix (vH hg) c t x
 least:least=true->Least (vH hg) c t x
def inv_start(least:Bool):BF hg c least (λ_=>0) 0:=by
 have hz:Nn n (λ_=>0):=λ_ _=>aM;refine⟨hz,aM,jj,λj hj=>?_,λ_=>Least.zero _ _ _⟩;have h1:0<=gG n g (λ_=>0) j:=by
  unfold gG;have a:0<=aB n (λi=>aB (g.k i) λc=>if wu g j i c then gq g (λ_=>0) (i,c)else 0):=Az λi hi=>Az λc _=>by grind[J5]
  have b:0<=aI g.ds (dG g (λ_=>0) j):=kH λd hd=>by
   have hl:=λl hl=>rF hg hd (l:=l) hl;have e:=hg.pos d hd;have e1:0<=aI d.2 (gq g λ_=>0):=kH λl h=>J5 hg hz (hl l h);have e2:=Ol (W:=d.1) (q:=λ_=>0) (q':=iy n (gq g λ_=>0)) (λ_=>aM) (λl=>by grind[iy,J5]) j d.2 0 0 aM
   rw[Lh j _ _ hl]at e2;have e3:qh d.1 (λ_=>0) 0 d.2 j=0:=by
    have:∀t:List eX,qh d.1 (λ_=>0) 0 t j=0:=λt=>by
     induction t with
     |nil=>rfl
     |cons l t ih=>
      grind[qh]
    grind
   grind[jP,dG]
  grind
 have h2:aB n (λi=>0-gG n g (λ_=>0) i)=-aB n (λi=>gG n g (λ_=>0) i):=by rw[iF,bI (f:=λ_=>0) λ_ _=>rfl];grind
 have h3:∀i,i<n->∀c',c'<g.k i->gq g (λ_=>0) (i,c')=0:=λi hi c' hc'=>by have e:∀x:Nat,xP (g.e i) 0 x=0:=λx=>Dj (hg.nn i hi).rk _;have e2:∀p,kD (g.e i) 0 p=0:=λp=>iT λx _=>e x;unfold gq rX;rw[e,iT λp hp=>by rw[e2];exact Dj ((hg.nn i hi).ps p hp) _];grind
 have h4:gG n g (λ_=>0) j=0:=by
  unfold gG;rw[bI λi hi=>bI λc' hc'=>by grind,iT λd hd=>?_]
  .grind
  .have hl:=λl hl=>hg.fH l (cF.mpr ⟨d,hd,hl⟩);have e:=hg.pos d hd;have e1:aI d.2 (gq g λ_=>0)=0:=iT λl h=>h3 l.1 (hl l h).1 l.2 (hl l h).2;have e3:qh d.1 (gq g λ_=>0) 0 d.2 j=0:=by
    have:∀t:List eX,(∀l∈t,l.1<n/\l.2<g.k l.1)->qh d.1 (gq g λ_=>0) 0 t j=0:=λt=>by
     induction t with
     |nil=>intro _;rfl
     |cons l t ih=>
      intro h
      have hh:=h l kc
      have e5:gq g (λ_=>0) l=0:=h3 l.1 hh.1 l.2 hh.2
      unfold qh
      rw[e5,show(0:Rat)+0=0 by grind,ih λu hu=>h u (by simp[hu])]
      split<;>grind
    exact this _ λl h=>hl l h
   unfold dG;rw[e1,e3];grind[jP]
 have:(vH hg).G (λ_=>0) j=gG n g (λ_=>0) j:=rfl;grind
variable {x:Nat→Rat} {t:Rat} {dist:Nat→Option Rat}
def acX(hx:Nn n x){d:Nat->Rat}(hd:Nn n d)(hD:∀i,i<n->F5 (g.e i) (g.k i) (x i) (dist i)){h:Rat}(hh:∀v∈jR n g dist x d,h<=v):Lin (vH hg) x d h:=λs h0 hs j hj=>
 aiu hg hx hd h0 (IE hg hx hd hD h0 λv hv=>cL hs (hh v hv)) hj
def Yq(hx:Nn n x){d:Nat->Rat}(hd:Nn n d)(hD:∀i,i<n->F5 (g.e i) (g.k i) (x i) (dist i)){h:Rat}(hh:∀v∈jR n g dist x d,h<=v):Same (vH hg) x d h:=λs h0 hs j i hj hi=>
 anx hg hx hd h0 (IE hg hx hd hD h0 λv hv=>by grind) (afh hg hx hd hD h0 λv hv=>by grind) hi
def afn{n:Nat}{g:GL}(hg:IV n g){x:Nat->Rat}{dist:Nat->Option Rat}(hD:∀i,i<n->F5 (g.e i) (g.k i) (x i) (dist i)){l:List Nat}(hl:IJ n (gM n g x) l){d:Nat->Rat}(hp:∀i∈l,0<d i):jR n g dist x d≠[]:=by
 intro he;have hi0:at0 l 0∈l:=iZ hl.ne;have hin:=hl.lt _ hi0;have av4:=hl.col _ hi0;generalize at0 l 0=i at*;have hn:dist i=none:=by
  cases ho:dist i with
  |none=>rfl
  |some y=>
   have:y/d i∈jR n g dist x d:=bA.mpr (.inl ((xM n).mpr ⟨i,hin,hp i hi0,y,ho,rfl⟩))
   grind
 have hs:∀c,c<g.k i->xH (g.e i) (x i) c=0:=λc hc=>by have:=((hD i hin).no hn 0 aM c hc).2;grind
 have hgs:∀l:eX,l∈g.fH->gs g x i l=0:=λl h=>by
  unfold gs;by_cases e:l.1=i
  .rw[ab e,e];have:=(hg.fH l h).2;grind
  grind
 have h0:∀j,gM n g x j i=0:=λj=>by
  unfold gM;rw[bI λc hc=>by grind[gs],iT λd' hd'=>?_]
  .grind
  .have hz:∀l∈d'.2,gs g x i l=0:=λl h=>hgs l (cF.mpr ⟨d',hd',h⟩);have e1:aI d'.2 (gs g x i)=0:=iT hz;have e2:jh d'.1 (gq g x) (gs g x i) 0 0 0 d'.2 j=0:=by
    have:∀(t:List eX) (Q:Rat),(∀l∈t,gs g x i l=0)->jh d'.1 (gq g x) (gs g x i) Q 0 0 t j=0:=by
     intro t;induction t with
     |nil=>intro Q _;rfl
     |cons l t ih=>
      grind[nT,jh]
    grind
   grind[dM,nT]
 grind[bI]
def ajM(hc:∀j,j<n->0<=c j){least:Bool}(hI:BF hg c least x t)(hD:∀i,i<n->F5 (g.e i) (g.k i) (x i) (dist i)){l:List Nat}{d:Nat->Rat}(hp:∀i∈l,0<d i)(hz:∀i,i∉l->d i=0)(hdm:∀j,j<n->d j=mv n (gM n g x) d j)
  (hre:least=true->∀E:Nat->Prop,(∃i,i<n/\E i/\i∈l)->(∀j,j<n->E j->c j=0)->(∀j i,j<n->i<n->E j->gM n g x j i≠0->E i)->False) (ht:least=true->t<1)
  {h:Rat}(hm:h∈jR n g dist x d) (hh:∀v∈jR n g dist x d,h<=v):BF hg c least (aY x d h) t/\mu n g (aY x d h)<mu n g x:=by
 have hd:Nn n d:=λi _=>by grind
 have h0:0<=h:=eO (Ep hD h hm)
 have hlin:=acX hg hI.nn hd hD hh
 have hsame:=Yq hg hI.nn hd hD hh
 refine⟨⟨hI.nn.step hd h0,hI.t0,hI.t1,Xy (vH hg) hI.fix hlin hdm h0 aM,λhl=>?_⟩,ao6 hg hI.nn hd hD hh hm⟩
 refine aao (vH hg) hI.nn hd hc h0 hI.fix hlin hsame hdm (λE ⟨i,hi,hE,hdi⟩ h1 h2=>hre hl E ⟨i,hi,hE,br λhn=>?_⟩ h1 h2) (ht hl) (hI.least hl)
 grind
def ajN(hc:∀j,j<n->0<=c j){least:Bool}(hI:BF hg c least x t)(hD:∀i,i<n->F5 (g.e i) (g.k i) (x i) (dist i)){v:Nat->Rat}(hv:Nn n v)(hvm:∀j,j<n->v j=mv n (gM n g x) v j+c j)
  (hno:∀S:Nat->Prop,(∃i,i<n/\S i)->(∀i,i<n->S i->0<v i)->¬Shut n (gM n g x) S) (ht:t<1){h:Rat}(h0:0<=h) (h1:h<=1-t) (hh:∀v'∈jR n g dist x v,h<=v'):
  BF hg c least (aY x v h) (t+h)/\mu n g (aY x v h)<=mu n g x/\(h∈jR n g dist x v->mu n g (aY x v h)<mu n g x):=by
 have hlin:=acX hg hI.nn hv hD hh
 have hsame:=Yq hg hI.nn hv hD hh
 have:=hI.t0
 refine⟨⟨hI.nn.step hv h0,by grind,by grind,Xx (vH hg) hI.fix hlin hvm h0 aM,λhl=>aan (vH hg) hI.nn hv hc h0 hI.fix hlin hsame hvm hno ht (hI.least hl)⟩,anA hg hI.nn (le_step hv h0),λhm=>ao6 hg hI.nn hv hD hh hm⟩
structure Grt(x:Nat->Rat):Prop where
 nn:Nn n x
 fix:∀j,j<n->x j=c j+gG n g x j
 grt:∀y,Nn n y->(∀j,j<n->y j<=c j+gG n g y j)->Le n y x
structure yt(x:Nat->Rat):Prop where
 nn:Nn n x
 fix:∀j,j<n->x j=c j+gG n g x j
 lst:∀y,Nn n y->(∀j,j<n->c j+gG n g y j<=y j)->Le n x y
def ajO{least:Bool}(hI:BF hg c least x 1)(hno:∀S:Nat->Prop,(∃i,i<n/\S i)->¬Shut n (gM n g x) S):Grt (n:=n) (g:=g) c x:=
 ⟨hI.nn,λj hj=>by have:=hI.fix j hj;rw[io]at this;exact this,λy hy hp=>Xw (vH hg) hI.nn hI.fix hno hy λj hj=>by rw[io];exact hp j hj⟩
def asL(hI:BF hg c true x 1):yt (n:=n) (g:=g) c x:=
 ⟨hI.nn,λj hj=>by have:=hI.fix j hj;rw[io]at this;exact this,λy hy hp=>hI.least rfl 1 y hy (λj hj=>by rw[io];exact hp j hj) (.inr ⟨rfl,rfl⟩)⟩
theorem Grt.uniq{y:Nat->Rat}(h1:Grt (n:=n) (g:=g) c x)(h2:Grt (n:=n) (g:=g) c y):∀i,i<n->x i=y i:=λi hi=>by have a:=h1.grt y h2.nn (λj hj=>by rw[<-h2.fix j hj];simp) i hi;have b:=h2.grt x h1.nn (λj hj=>by rw[<-h1.fix j hj];simp) i hi;grind
end
end Go.Proofs.Ins
namespace Go.Proofs.Xe
open Go.RowKit Go.Proofs.Ins
def sz1:Sz (1:Rat):=⟨Nat.one_lt_pow jj jj,Nat.one_lt_pow jj jj⟩
def acY(a b:Rat):decide (oh a b<Int.ofNat 0)=decide (a<b):=by
 by_cases h:a<b
 .rw[bj h];exact bj (qy.mpr h)
 .rw[aw h];exact aw λh2=>h (qy.mp h2)
def anM{σ:St}(hW:WF σ){p:Nat->Prop}{mv:B}{n:Nat}{M:Nat->Nat->Rat}(hM:dR p σ.h mv n (λ_=>n) M)(hn:n<=1000){i:Nat}(hi:i<n)(hz:∀k,k<=n->Sz (aB k λj=>M j i))(hz2:∀j,j<n->Sz (M j i)):
  aC EN 108 [.c mv,.c (.int .i64 (.ofNat i))] σ λr σ'=>r=.c (.bool (decide (aB n (λj=>M j i)<1)))/\Fr σ σ':=by
 refine aP (sW.o _ _) sW.h ?_
 unfold sW
 dsimp only
 have hlen:=hM.len
 have hFr:=Fr.refl hW
 have z1:=sz1
 simp(disch:=try exact jz) only[go_sem,z3,hlen]
 refine aF (λx tm σ'=>∃j,x=n-j/\j<=n/\Tr.ah tm 1=.c (.int .i64 (.ofNat i))/\Tr.ah tm 5=.c (.ptr σ.aj 0)/\Tr.ah tm 9=.c mv/\Tr.ah tm 10=.c (.int .i64 (.ofNat n))/\Tr.ah tm 11=.c (.int .i64 (.ofNat j))
  /\σ'.h σ.aj=some ⟨[.bool (rn (aB j λj=>M j i)),.str (rs (aB j λj=>M j i)),.str (rd (aB j λj=>M j i))],none⟩/\Fr σ σ'/\σ.aj+1<=σ'.aj) n ?_ ?_
 .refine⟨0,jb,jb,?_⟩
  simp(disch:=try exact jz) only[go_sem,z3,am]
  exact⟨rfl,fr,jb⟩
 .rintro x tm σ' ⟨j,rfl,hj,t1,t5,t9,t10,t11,q5,hf,hnx⟩
  have hle:=hf.le
  have lI:=Fr.refl hf.wf
  have y1:=hz j hj
  simp(disch:=try exact jz) only[go_sem,z3,t1,t5,t9,t10,t11,aG]
  refine aH (λhlt=>?_) (λhlt=>?_)
  .obtain⟨b6,o6,c6,T,rfl,-,dh,hT⟩:=hM.at hlt
   obtain⟨b7,o7,c7,rfl,-,dO⟩:=aZ.at3 hT hi
   have dh:=hf.ld hW dh
   have dO:=hf.ld hW dO
   have y2:=hz2 j hlt
   have e:(aB j λj=>M j i)+M j i=aB (j+1) λj=>M j i:=rfl
   simp(disch:=try exact jz) only[go_sem,z3,t1,t5,t9,t10,t11,dh,dO,ak q5,q5,aJ q5,e]
   exact⟨n-(j+1),jb,j+1,rfl,jb,rfl,rfl,fr,jb⟩
  .have:j=n:=jb
   subst this
   simp(disch:=try exact jz) only[go_sem,z3,t1,t5,ak q5,acY]
   exact hf
def LQ{σ:St}(hW:WF σ){p p':Nat->Prop}{xv dv:B}{n:Nat}{x d:Nat->Rat}(hx:kF p σ.h xv n x)(hd:kF p' σ.h dv n d)(hn:n<=1000){h:Rat}(z1:Sz h)(zx:∀i,i<n->Sz (x i))(zd:∀i,i<n->Sz (d i))(zm:∀i,i<n->Sz (h*d i))(zs:∀i,i<n->Sz (x i+h*d i)):
  aC EN 72 [.c xv,.c dv,.agg [.bool (rn h),.str (rs h),.str (rd h)]] σ λr σ'=>X9 σ σ' r n (aY x d h)/\Fr σ σ':=by
 refine aP (sV.o _ _) sV.h ?_
 unfold sV
 dsimp only
 have hlen:=aZ.len hx
 have hFr:=Fr.refl hW
 simp(disch:=try exact jz) only[go_sem,z3,hlen]
 refine aF (λy tm σ'=>∃j,y=n-j/\j<=n/\Tr.ah tm 0=.c xv/\Tr.ah tm 1=.c dv/\Tr.ah tm 5=.c (.ptr σ.aj 0)/\Tr.ah tm 7=.c (.sl (σ.aj+1) 0 n (.ex n))/\Tr.ah tm 13=.c (.int .i64 (.ofNat n))/\Tr.ah tm 14=.c (.int .i64 (.ofNat j))
  /\σ'.h σ.aj=some ⟨[.bool (rn h),.str (rs h),.str (rd h)],none⟩/\σ'.h (σ.aj+1)=some ⟨cZ n (λi=>if i<j then aY x d h i else 0),none⟩/\Fr σ σ'/\σ.aj+1+1<=σ'.aj) n ?_ ?_
 .refine⟨0,jb,jb,?_⟩
  simp(disch:=try exact jz) only[go_sem,z3,am]
  exact⟨by rw[xJ],fr,jb⟩
 .rintro y tm σ' ⟨j,rfl,hj,t0,t1,t5,t7,t13,t14,q5,q7,hf,hnx⟩
  have hle:=hf.le
  have lI:=Fr.refl hf.wf
  simp(disch:=try exact jz) only[go_sem,z3,t0,t1,t5,t7,t13,t14,aG]
  refine aH (λhlt=>?_) (λhlt=>?_)
  .obtain⟨b6,o6,c6,rfl,-,dh⟩:=aZ.at3 hx hlt
   obtain⟨b7,o7,c7,rfl,-,dO⟩:=aZ.at3 hd hlt
   have dh:=hf.ld hW dh
   have dO:=hf.ld hW dO
   have y1:=zx j hlt
   have y2:=zd j hlt
   have y3:=zm j hlt
   have y4:=zs j hlt
   have hst:=rM n j (aY x d h)
   rw[show aY x d h j=x j+h*d j from rfl]at hst
   simp(disch:=try exact jz) only[go_sem,z3,t0,t1,t5,t7,t13,t14,dh,dO,ak q5,q5,q7,aJ q7,hst]
   exact⟨n-(j+1),jb,j+1,rfl,jb,rfl,rfl,fr,jb⟩
  .have:j=n:=jb
   subst this
   simp(disch:=try exact jz) only[go_sem,z3,t7]
   exact⟨⟨_,rfl,by rw[q7,yL],jb,jb⟩,hf⟩
abbrev Yr(h:Tr Bk)(v:B)(l:List Nat):Prop:=HL h 1 v l.length λa=>[.int .i64 (.ofNat (at0 l a))]
def Po(l:List Nat)(v:Nat->Rat):Nat->Nat->Rat
 |0,_=>0
 |k+1,i=>if i=at0 l k then v k else Po l v k i
theorem afo{l:List Nat}(hn:l.Nodup)(v:Nat->Rat)(i:Nat):Po l v l.length i=pU l v i:=by
 have h1:∀k,k<=l.length->(∀a,a<k->at0 l a≠i)->Po l v k i=0:=by
  intro k;induction k with
  |zero=>intro _ _;rfl
  |succ k ih=>
   grind[Po]
 have h2:∀k a,k<=l.length->a<k->at0 l a=i->Po l v k i=v a:=by
  intro k;induction k with
  |zero=>omega
  |succ k ih=>
   grind[Po,at0,List.getElem_inj]
 grind[Et,Eu,uh]
def Yt{σ:St}(hW:WF σ){p:Nat->Prop}{iv vv:B}{n:Nat}{l:List Nat}{v:Nat->Rat}(hl:Yr σ.h iv l)(hv:kF p σ.h vv l.length v)(hn:n<=1000)(hl1:l.length<=1000)(hln:∀i∈l,i<n):
  aC EN 111 [.c (.int .i64 (.ofNat n)),.c iv,.c vv] σ λr σ'=>X9 σ σ' r n (Po l v l.length)/\Fr σ σ':=by
 refine aP (qV.o _ _) qV.h ?_
 unfold qV
 dsimp only
 have hlen:=hl.len
 have hFr:=Fr.refl hW
 simp(disch:=try exact jz) only[go_sem,z3,hlen]
 refine aF (λy tm σ'=>∃j,y=l.length-j/\j<=l.length/\Tr.ah tm 2=.c vv/\Tr.ah tm 7=.c (.sl σ.aj 0 n (.ex n))/\Tr.ah tm 12=.c iv/\Tr.ah tm 13=.c (.int .i64 (.ofNat l.length))/\Tr.ah tm 14=.c (.int .i64 (.ofNat j))
  /\σ'.h σ.aj=some ⟨cZ n (Po l v j),none⟩/\Fr σ σ'/\σ.aj+1<=σ'.aj) l.length ?_ ?_
 .refine⟨0,jb,jb,?_⟩
  simp(disch:=try exact jz) only[go_sem,z3,am]
  exact⟨rfl,fr,jb⟩
 .rintro y tm σ' ⟨j,rfl,hj,t2,t7,t12,t13,t14,q7,hf,hnx⟩
  have hle:=hf.le
  have lI:=Fr.refl hf.wf
  simp(disch:=try exact jz) only[go_sem,z3,t2,t7,t12,t13,t14,aG]
  refine aH (λhlt=>?_) (λhlt=>?_)
  .obtain⟨b6,o6,c6,rfl,dh⟩:=hl.one jb
   obtain⟨b7,o7,c7,rfl,-,dO⟩:=aZ.at3 hv hlt
   have dh:=hf.ld hW (dh j hlt)
   have dO:=hf.ld hW dO
   have hin:=hln _ (iZ hlt)
   have hst:cZ n (aO (Po l v j) (at0 l j) (v j))=cZ n (Po l v (j+1)):=dQ λi _=>rfl
   simp(disch:=try exact jz) only[go_sem,z3,t2,t7,t12,t13,t14,dh,dO,q7,aJ q7,hst]
   exact⟨l.length-(j+1),jb,j+1,rfl,jb,rfl,rfl,fr,jb⟩
  .have:j=l.length:=jb
   subst this
   simp(disch:=try exact jz) only[go_sem,z3,t7]
   exact⟨⟨_,rfl,q7,jb,jb⟩,hf⟩
def bls(n:Nat)(f:Nat->Bool):List B:=ones n λi=>.bool (f i)
def acZ(n:Nat)(f:Nat->Bool)(i:Nat)(b:Bool):ones n (aO (λi=>B.bool (f i)) i (.bool b))=bls n (aO f i b):=dU λk _=>by grind[aO]
def ajP{σ:St}(hW:WF σ){n b:Nat}{c:Cap}{f:Nat->Bool}(hb:σ.h b=some ⟨bls n f,none⟩)(hn:n<=1000000):
  aC EN 105 [.c (.sl b 0 n c)] σ λr σ'=>(∃b' c' o',r=.c (.sl b' 0 n c')/\σ'.h b'=some ⟨bls n f,o'⟩/\plo o'=true/\YU o'=true/\σ.aj<=b'/\b'<σ'.aj)/\Fr σ σ':=by
 refine aP (jG.o _ _) jG.h ?_
 unfold jG
 dsimp only
 have hbl:=hW.lt hb
 unfold bls at*
 by_cases h0:n=0
 .subst h0
  simp(disch:=try exact jz) only[go_sem,z3,hb]
  refine⟨⟨σ.aj,_,none,rfl,aA _ _ _,rfl,rfl,jp,cf _⟩,?_⟩
  exact fr
 .simp(disch:=try exact jz) only[go_sem,z3,hb]
  refine⟨⟨σ.aj+1,_,_,rfl,aA _ _ _,rfl,rfl,jb,cf _⟩,?_⟩
  exact fr
def afp(n:Nat)(o:Nat->Bool):Nat:=xY n λi=>if o i=true then 0 else 1
def ajQ{n:Nat}{o:Nat->Bool}{j:Nat}(hj:j<n)(h:o j=false):afp n (aO o j true)<afp n o:=by
 refine U8 (k:=j) n (λi _=>?_) hj ?_
 .grind[aO]
 grind[aO]
structure Yu(n:Nat)(M:Nat->Nat->Rat)(fr:Nat->Prop)(o0 o:Nat->Bool)(ch:Bool):Prop where
 up:∀i,o0 i=true->o i=true
 rch:∀i,i<n->o i=true->Vf n M fr i
 cnt:afp n o+(if ch=true then 1 else 0)<=afp n o0
 eq:ch=false->o=o0
def Yu.set{n:Nat}{M:Nat->Nat->Rat}{fr:Nat->Prop}{o0 o:Nat->Bool}{ch:Bool}(h:Yu n M fr o0 o ch){i j:Nat}(hi:i<n)(hj:j<n)(h1:o i=true)(h2:o j=false)(h3:0<M j i):Yu n M fr o0 (aO o j true) true:=by
 refine⟨λk hk=>?_,λk hk ho=>?_,?_,λe=>by cases e⟩
 .unfold aO;split
  .rfl
  .exact h.up k hk
 .unfold aO at ho;by_cases e:k=j
  .subst e;exact .step (h.rch i hi h1) hj kd
  .rw[ae e]at ho;exact h.rch k hk ho
 .have a:=ajQ hj h2;have b:=h.cnt;grind
def ac0{σ:St}(hW:WF σ){p:Nat->Prop}{mv:B}{n:Nat}{M:Nat->Nat->Rat}(hM:dR p σ.h mv n (λ_=>n) M)(hn:n<=1000)(hz:∀j i,j<n->i<n->Sz (M j i))(h0:∀j i,j<n->i<n->0<=M j i)
  {b:Nat}{c:Cap}{f:Nat->Bool}(hb:σ.h b=some ⟨bls n f,none⟩):
  aC EN 65 [.c mv,.c (.sl b 0 n c)] σ λr σ'=>(∃b' c' o' g,r=.c (.sl b' 0 n c')/\σ'.h b'=some ⟨bls n g,o'⟩/\YU o'=true/\b'<σ'.aj/\∀i,i<n->(g i=true↔Vf n M (λi=>f i=true) i))/\Fr σ σ':=by
 refine aP (sU.o _ _) sU.h ?_
 unfold sU
 dsimp only
 have hlen:=hM.len
 simp(disch:=try exact jz) only[go_sem,z3]
 refine(ajP hW hb jb).mono ?_
 rintro _ σ1 ⟨⟨b1,c1,o1,rfl,hb1,hpl,hrd,hl1,hl2⟩,hf1⟩
 have hnx1:=hf1.le
 simp(disch:=try exact jz) only[go_sem,z3]
 refine aF (λq tm σ'=>∃o ch,q=afp n o+(if ch=true then 1 else 0)/\Tr.ah tm 0=.c mv/\Tr.ah tm 5=.c (.sl b1 0 n c1)/\Tr.ah tm 6=.c (.bool ch)/\σ'.h b1=some ⟨bls n o,o1⟩/\Fr σ σ'
  /\(∀i,f i=true->o i=true)/\(∀i,i<n->o i=true->Vf n M (λi=>f i=true) i)/\(ch=false->∀i j,i<n->j<n->o i=true->0<M j i->o j=true)) (afp n f+1) ?_ ?_
 .refine⟨f,true,rfl,?_⟩
  simp(disch:=try exact jz) only[go_sem,z3,am]
  exact⟨hb1,hf1,λ_ h=>h,λi hi h=>.base h hi,λe=>by cases e⟩
 .rintro q tm σ' ⟨o,ch,rfl,t0,t5,t6,q1,hf,hup,hrc,hcl⟩
  cases ch with
  |false=>
   simp(disch:=try exact jz) only[go_sem,z3,t0,t5,t6]
   refine⟨⟨b1,c1,o1,o,rfl,q1,hrd,hf.wf.lt q1,λi hi=>⟨hrc i hi,λh=>?_⟩⟩,hf⟩
   exact h.sub (S:=λi=>o i=true) (λi _ h=>hup i h) λi j hi hj h1 h2=>hcl rfl i j hi hj h1 kd
  |true=>
   simp(disch:=try exact jz) only[go_sem,z3,t0,t5,t6,hlen]
   refine aF (λq tm σ2=>∃j o' ch,q=n-j/\j<=n/\Tr.ah tm 0=.c mv/\Tr.ah tm 5=.c (.sl b1 0 n c1)/\Tr.ah tm 6=.c (.bool ch)/\Tr.ah tm 14=.c mv/\Tr.ah tm 15=.c (.int .i64 (.ofNat n))/\Tr.ah tm 16=.c (.int .i64 (.ofNat j))/\σ2.h b1=some ⟨bls n o',o1⟩/\Fr σ σ2
    /\Yu n M (λi=>f i=true) o o' ch/\(ch=false->∀i j',i<n->j'<j->o i=true->0<M j' i->o j'=true)) n ?_ ?_
   .refine⟨0,o,false,jb,jb,?_⟩
    simp(disch:=try exact jz) only[go_sem,z3,t0,t5,am]
    exact⟨q1,hf,⟨λ_ h=>h,hrc,by simp,λ_=>rfl⟩,λ_ i j' _ h=>absurd h jb⟩
   .rintro q Wn σ2 ⟨j,o',ch,rfl,hj,t0,t5,t6,t14,t15,t16,q2,hf2,hP,hc2⟩
    simp(disch:=try exact jz) only[go_sem,z3,t0,t5,t6,t14,t15,t16,aG]
    refine aH (λhlt=>?_) (λhlt=>?_)
    .obtain⟨b6,o6,c6,T,rfl,-,dh,hT⟩:=hM.at hlt
     have dh:=hf2.ld hW dh
     have hTl:=aZ.len hT
     simp(disch:=try exact jz) only[go_sem,z3,t0,t5,t6,t14,t15,t16,dh,hTl]
     refine aF (λq tm σ3=>∃i o' ch,q=n-i/\i<=n/\Tr.ah tm 0=.c (.sl b6 o6 n c6)/\Tr.ah tm 5=.c (.sl b1 0 n c1)/\Tr.ah tm 6=.c (.bool ch)/\Tr.ah tm 7=.c (.int .i64 (.ofNat j))/\Tr.ah tm 14=.c (.sl b6 o6 n c6)/\Tr.ah tm 15=.c (.int .i64 (.ofNat n))/\Tr.ah tm 16=.c (.int .i64 (.ofNat j))
      /\Tr.ah tm 21=.c T/\Tr.ah tm 22=.c (.int .i64 (.ofNat n))/\Tr.ah tm 23=.c (.int .i64 (.ofNat i))/\σ3.h b1=some ⟨bls n o',o1⟩/\Fr σ σ3
      /\Yu n M (λi=>f i=true) o o' ch/\(ch=false->(∀i j',i<n->j'<j->o i=true->0<M j' i->o j'=true)/\∀i',i'<i->o i'=true->0<M j i'->o j=true)) n ?_ ?_
     .refine⟨0,o',ch,jb,jb,?_⟩
      simp(disch:=try exact jz) only[go_sem,z3,t0,t5,t6,t14,t15,t16,am]
      exact⟨q2,hf2,hP,λe=>⟨hc2 e,λi' h=>absurd h jb⟩⟩
     .rintro q tm3 σ3 ⟨i,o',ch,rfl,hi,t0,t5,t6,t7,t14,t15,t16,t21,t22,t23,q3,hf3,hP,hc3⟩
      simp(disch:=try exact jz) only[go_sem,z3,t0,t5,t6,t7,t14,t15,t16,t21,t22,t23,aG]
      refine aH (λhli=>?_) (λhli=>?_)
      .obtain⟨b7,o7,c7,rfl,-,dO⟩:=aZ.at3 hT hli
       have dO:=hf3.ld hW dO
       have hb7:=hf3.wf.bH dO
       have azQ:=hf3.wf.lt q3
       have hle3:=hf3.le
       have z2:=hz j i hlt hli
       have hFr:=Fr.refl hf3.wf
       have hkeep:(ch=false->¬(o' i=true/\o' j=false/\0<M j i))->ch=false->(∀i j',i<n->j'<j->o i=true->0<M j' i->o j'=true)/\∀i',i'<i+1->o i'=true->0<M j i'->o j=true:=λhno e=>by
        refine⟨(hc3 e).1,λi' h1 h2 h3=>?_⟩;rcases fe.mp h1 with h|rfl
        .exact(hc3 e).2 i' h h2 h3
        .have:=hno e;rw[hP.eq e]at this;cases hoj:o j with
         |true=>rfl
         |false=>exact absurd ⟨h2,hoj,h3⟩ this
       unfold bls at q3
       cases hoi:o' i with
       |false=>
        simp(disch:=try exact jz) only[go_sem,z3,t0,t5,t6,t7,t14,t15,t16,t21,t22,t23,dO,ak q3,hrd,hoi]
        exact⟨n-(i+1),jb,i+1,o',ch,rfl,jb,rfl,rfl,q3,fr,hP,hkeep λ_ h=>by rw[hoi]at h;cases h.1⟩
       |true=>
        cases hoj:o' j with
        |true=>
         simp(disch:=try exact jz) only[go_sem,z3,t0,t5,t6,t7,t14,t15,t16,t21,t22,t23,dO,ak q3,hrd,hoi,hoj]
         exact⟨n-(i+1),jb,i+1,o',ch,rfl,jb,rfl,rfl,q3,fr,hP,hkeep λ_ h=>by rw[hoj]at h;cases h.2.1⟩
        |false=>
         by_cases hm:0<M j i
         .have hst:=acZ n o' j true
          simp(disch:=try exact jz) only[go_sem,z3,t0,t5,t6,t7,t14,t15,t16,t21,t22,t23,dO,ak q3,hrd,hoi,hoj,hm,aJ q3,q3,hpl,hst]
          exact⟨n-(i+1),jb,i+1,aO o' j true,true,rfl,jb,rfl,rfl,rfl,fr,hP.set hli hlt hoi hoj hm,λe=>by cases e⟩
         .simp(disch:=try exact jz) only[go_sem,z3,t0,t5,t6,t7,t14,t15,t16,t21,t22,t23,dO,ak q3,hrd,hoi,hoj,hm]
          exact⟨n-(i+1),jb,i+1,o',ch,rfl,jb,rfl,rfl,q3,fr,hP,hkeep λ_ h=>hm h.2.2⟩
      .have:i=n:=jb
       subst this
       simp(disch:=try exact jz) only[go_sem,z3,t0,t5,t6,t7,t14,t15,t16]
       refine⟨i-(j+1),jb,j+1,o',ch,rfl,jb,rfl,rfl,q3,hf3,hP,λe k j' hk hj' h1 h2=>?_⟩
       rcases fe.mp hj' with h|rfl
       .exact(hc3 e).1 k j' hk h h1 h2
       .exact(hc3 e).2 k hk h1 h2
    .have:j=n:=jb
     subst this
     simp(disch:=try exact jz) only[go_sem,z3,t0,t5,t6]
     have hcnt:=hP.cnt
     refine⟨_,?_,o',ch,rfl,rfl,q2,hf2,λi h=>hP.up i (hup i h),hP.rch,λe i j hi hj h1 h2=>?_⟩
     .rw[ab trivial];omega
     .have he:=hP.eq e
      rw[he]at h1⊢
      exact hc2 e i j hi hj h1 h2
def gY(f:Nat->Bool):Nat->List Nat
 |0=>[]
 |k+1=>if f k=true then gY f k++[k]else gY f k
def Ae(f:Nat->Bool)(i:Nat):∀n,i∈gY f n↔i<n/\f i=true
 |0=>by unfold gY;simp
 |n+1=>by
  have ih:=Ae f i n;unfold gY;by_cases h:f n=true
  .rw[ab h,bA,ih,eC];constructor
   .rintro(⟨a,b⟩|rfl)
    .exact⟨jb,b⟩
    .exact⟨jb,h⟩
   .rintro⟨a,b⟩;rcases fe.mp a with c|rfl
    .exact .inl ⟨c,b⟩
    .exact .inr rfl
  .rw[ae h,ih];constructor
   .rintro⟨a,b⟩;exact⟨jb,b⟩
   .rintro⟨a,b⟩;rcases fe.mp a with c|rfl
    .exact⟨c,b⟩
    .exact absurd b h
def F7(f:Nat->Bool):∀n,(gY f n).Nodup
 |0=>List.nodup_nil
 |n+1=>by
  have ih:=F7 f n;unfold gY;split
  .refine eZ.mpr ⟨ih,by simp,λa ha b hb=>?_⟩;rw[eC]at hb;have:=(Ae f a n).mp ha;omega
  .exact ih
def IK(f:Nat->Bool):∀n,(gY f n).length<=n
 |0=>jp
 |n+1=>by
  have ih:=IK f n;unfold gY;split
  .rw[az,bX];omega
  .omega
def Yv(f:Nat->Bool){j:Nat}:∀n,j<=n->(gY f j).length<=(gY f n).length/\∀a,a<(gY f j).length->at0 (gY f n) a=at0 (gY f j) a
 |0,h=>by grind
 |n+1,h=>by
  rcases gj j (n+1)with h2|h2
  .obtain⟨i1,i2⟩:=Yv f n (by omega:j<=n);rw[show gY f (n+1)=if f n=true then gY f n++[n]else gY f n from rfl];split
   .refine⟨by rw[az];omega,λa ha=>?_⟩;rw[yM,ab jb];exact i2 a ha
   .exact⟨i1,i2⟩
  .rw[show j=n+1 by omega];exact⟨jp,λ_ _=>rfl⟩
def ac1(f:Nat->Bool){j n:Nat}(hj:j<n)(h:f j=true):at0 (gY f n) (gY f j).length=j:=by have e:gY f (j+1)=gY f j++[j]:=ab h;rw[(Yv f n (show j+1<=n by omega)).2 _ kd,e,yM,ae jb,ab rfl]
def Pq{f g:Nat->Bool}:∀n,(∀i,i<n->f i=g i)->gY f n=gY g n
 |0,_=>rfl
 |n+1,h=>by unfold gY;rw[Pq n λi hi=>h i jb,h n jb]
theorem Vf.imp{n:Nat}{M:Nat->Nat->Rat}{fr fr':Nat->Prop}(hf:∀i,fr i->fr' i){i:Nat}(h:Vf n M fr i):Vf n M fr' i:=by
 induction h with
 |base h hi=>exact .base (hf _ h) hi
 |step _ hj hm ih=>exact .step ih hj hm
open Classical in
noncomputable def rU(n:Nat)(M:Nat->Nat->Rat)(fr:Nat->Prop):List Nat:=gY (λk=>decide (Vf n M fr k)) n
open Classical in
def LU(n:Nat)(M:Nat->Nat->Rat)(fr:Nat->Prop):RList n M fr (rU n M fr):=
 ⟨F7 _ _,λi=>by unfold rU;rw[Ae,ga];exact⟨λh=>h.2,λh=>⟨h.lt,h⟩⟩⟩
open Classical in
def anN{n:Nat}{M:Nat->Nat->Rat}{fr fr':Nat->Prop}{g:Nat->Bool}(hg:∀i,i<n->(g i=true↔Vf n M fr' i))(hf:∀i,fr' i↔fr i):gY g n=rU n M fr:=Pq n λi hi=>by grind[Vf.imp]
def F8(l:List Nat)(a:Nat):List B:=[.int .i64 (.ofNat (at0 l a))]
def ajR{σ:St}(hW:WF σ){n:Nat}{v:B}{f:Nat->Bool}(hv:HL σ.h 1 v n λi=>[.bool (f i)])(hn:n<=1000):
  aC EN 70 [.c v] σ λr σ'=>(∃b,r=.c (aV (gY f n).length b)/\NF NoQ σ'.h b (gY f n).length (F8 (gY f n)) 1 3 σ.aj σ'.aj)/\Fr σ σ':=by
 refine aP (uV.o _ _) uV.h ?_
 unfold uV
 dsimp only
 have hlv:=hv.len
 have hlk:=hv.kn
 have hL:LG (F8 (gY f n)) 1:=λ_=>rfl
 simp(disch:=try exact jz) only[go_sem,z3,hlv]
 refine aF (λx tm σ'=>∃j b,x=n-j/\j<=n/\Tr.ah tm 3=.c (aV (gY f j).length b)/\Tr.ah tm 6=.c v/\Tr.ah tm 7=.c (.int .i64 (.ofNat n))/\Tr.ah tm 8=.c (.int .i64 (.ofNat j))
  /\NF NoQ σ'.h b (gY f j).length (F8 (gY f n)) 1 3 σ.aj σ'.aj/\Fr σ σ') n ?_ ?_
 .refine⟨0,σ.aj,jb,jb,?_⟩
  simp(disch:=try exact jz) only[go_sem,z3,am]
  exact⟨rfl,NF.nil hL,Fr.refl hW⟩
 .rintro x tm σ' ⟨j,b,rfl,hj,t3,t6,t7,t8,hN,hf⟩
  have hle:=hf.le
  have hg:=hN.g
  have hl1:=hN.l1
  have hl2:=hN.l2
  simp(disch:=try exact jz) only[go_sem,z3,t3,t6,t7,t8,aG]
  refine aH (λhlt=>?_) (λhlt=>?_)
  .obtain⟨bb,o,c,rfl,hld⟩:=hv.one jb
   have hld:=hf.ld hW (hld j hlt)
   have hlen:=IK f j
   cases hfj:f j with
   |false=>
    rw[hfj]at hld
    have e:gY f (j+1)=gY f j:=ae kd
    simp(disch:=try exact jz) only[go_sem,z3,t3,t6,t7,t8,hld]
    exact⟨n-(j+1),jb,j+1,b,rfl,jb,by rw[e],rfl,by grind,hf⟩
   |true=>
    rw[hfj]at hld
    have e:gY f (j+1)=gY f j++[j]:=ab hfj
    have e2:(gY f (j+1)).length=(gY f j).length+1:=by grind
    have hat:=ac1 f hlt hfj
    have lI:=Fr.refl hf.wf
    simp(disch:=try exact jz) only[go_sem,z3,t3,t6,t7,t8,hld,hg]
    refine⟨n-(j+1),jb,j+1,σ'.aj+1,rfl,jb,by rw[e2];rfl,rfl,?_,fr⟩
    rw[e2]
    refine hN.push (hi1:=σ'.aj) (h1:=σ'.h) (λ_ _=>J4 _) (λ_ _ _ _ h=>h) trivial (λ_ _ _=>rfl) jp jb jb jb (aA _ _ _) ?_ (λc h1 h2 h3=>?_) (λ_ _=>rfl) hL
    .grind[F8]
    grind[au,gZ]
  .have:j=n:=jb
   subst this
   simp(disch:=try exact jz) only[go_sem,z3,t3]
   grind
def Yw:decide (Int.ofNat 0<=Int.negSucc 0)=false:=by decide
def afq{σ:St}(hW:WF σ){p:Nat->Prop}{mv iv:B}{n:Nat}{M:Nat->Nat->Rat}(hM:dR p σ.h mv n (λ_=>n) M)(hn:n<=1000)(hz:∀i k,i<n->k<=n->Sz (aB k λj=>M j i))(hz2:∀j i,j<n->i<n->Sz (M j i)){l:List Nat}(hl:Yr σ.h iv l)(hl1:l.length<=1000)(hln:∀i∈l,i<n)
  {cb:Nat}(hc:σ.h cb=some ⟨[mv],none⟩):
  aC EN 106 [.c iv,.fn 107 [.ptr cb 0]] σ λr σ'=>(∃d:Bool,r=.c (.bool d)/\(d=false↔Dry n M l))/\Fr σ σ':=by
 refine aP (iL.o _ _) iL.h ?_
 unfold iL
 dsimp only
 have hlen:=hl.len
 have hmk:=hM.kn
 have hcl:=λ(args:List V) (σ:St) (K:V->St->Prop)=>kJ (E:=EN) (K:=K) (oC.o args σ) oC.h
 unfold oC at hcl
 dsimp only at hcl
 have hif:=λ(args:List V) (σ:St) (K:V->St->Prop)=>kJ (E:=EN) (K:=K) (jf.o args σ) jf.h
 unfold jf at hif
 dsimp only at hif
 simp(disch:=try exact jz) only[go_sem,z3,hif,hlen]
 refine aF (λq tm σ'=>∃j,q=l.length-j/\j<=l.length/\Tr.ah tm 0=.c iv/\Tr.ah tm 1=.fn 107 [.ptr cb 0]/\Tr.ah tm 7=.c (.int .i64 (.ofNat l.length))/\Tr.ah tm 8=.c (.int .i64 (.ofNat j))/\(∀a,a<j->¬aB n (λj=>M j (at0 l a))<1)/\Fr σ σ') l.length ?_ ?_
 .refine⟨0,jb,jb,?_⟩
  simp(disch:=try exact jz) only[go_sem,z3,am]
  grind[Fr.refl]
 .rintro q tm σ' ⟨j,rfl,hj,t0,t1,t7,t8,hd,hf⟩
  have lI:=Fr.refl hf.wf
  simp(disch:=try exact jz) only[go_sem,z3,t0,t1,t7,t8,aG]
  refine aH (λhlt=>?_) (λhlt=>?_)
  .obtain⟨bb,o,c,rfl,hld⟩:=hl.one jb
   have hld:=hf.ld hW (hld j hlt)
   have hc':=hf.get hW hc
   have hin:=hln _ (iZ hlt)
   simp(disch:=try exact jz) only[go_sem,z3,t0,t1,t7,t8,hld,hcl,ak hc',hmk]
   refine(anM hf.wf (hM.fr hW hf) hn hin (λk hk=>hz _ k hin hk) λj hj=>hz2 j _ hj hin).mono ?_
   rintro _ σ2 ⟨rfl,hf2⟩
   have hf3:=hf.trans hf2
   simp(disch:=try exact jz) only[go_sem,z3,t0,t1,t7,t8]
   refine aH (λhs=>?_) (λhs=>?_)
   .simp(disch:=try exact jz) only[go_sem,z3,t0,t1,t7,t8,show decide (Int.ofNat 0<=Int.ofNat j)=true from bj kc]
    exact⟨⟨_,rfl,⟨λh=>(by cases h),λh=>absurd hs (h _ (iZ hlt))⟩⟩,hf3⟩
   .simp(disch:=try exact jz) only[go_sem,z3,t0,t1,t7,t8]
    refine⟨l.length-(j+1),jb,j+1,rfl,jb,rfl,λa ha=>?_,hf3⟩
    rcases fe.mp ha with h|rfl
    .grind
    omega
  .have:j=l.length:=jb
   subst this
   simp(disch:=try exact jz) only[go_sem,z3,t0,Yw]
   refine⟨⟨_,rfl,⟨λ_ i hi=>?_,λ_=>rfl⟩⟩,hf⟩
   grind[Et]
def IL(n:Nat)(M:Nat->Nat->Rat)(of:Nat->Bool)(j:Nat)(h:Tr Bk)(v:B)(hi:Nat):Prop:=
 (v=.aX/\∀k,k<j->of k=true->¬Dry n M (rU n M λi=>i=k))\/
 ∃i,i<j/\of i=true/\Dry n M (rU n M λk=>k=i)/\(∀k,k<j->of k=true->Dry n M (rU n M λi=>i=k)->(rU n M λk=>k=i).length<=(rU n M λi=>i=k).length)
  /\(∃b,v=.sl b 0 (rU n M λk=>k=i).length .opn)/\aZ (λb=>b<hi) h 1 v (rU n M λk=>k=i).length (F8 (rU n M λk=>k=i))
def IL.no{n:Nat}{M:Nat->Nat->Rat}{of:Nat->Bool}{j:Nat}{v:B}{σ σ':St}(hB:IL n M of j σ.h v σ.aj)(hf:Fr σ σ')(hno:of j=true->¬Dry n M (rU n M λi=>i=j)):IL n M of (j+1) σ'.h v σ'.aj:=by
 have hle:=hf.le;rcases hB with⟨rfl,h⟩|⟨i,h1,h2,h3,h4,h5,h6⟩
 .refine .inl ⟨rfl,λk hk ho=>?_⟩;grind
 .refine .inr ⟨i,jb,h2,h3,λk hk ho hd=>?_,h5,h6.keep (λb hb=>hf.old b hb) λb hb=>aE hb hle⟩;grind
def IL.get{n:Nat}{M:Nat->Nat->Rat}{of:Nat->Bool}{j:Nat}{v:B}{h:Tr Bk}{hi:Nat}(ho:of j=true)(hd:Dry n M (rU n M λi=>i=j))(hmin:∀k,k<j->of k=true->Dry n M (rU n M λi=>i=k)->(rU n M λk=>k=j).length<=(rU n M λi=>i=k).length)
  (hv:∃b,v=.sl b 0 (rU n M λk=>k=j).length .opn) (hH:aZ (λb=>b<hi) h 1 v (rU n M λk=>k=j).length (F8 (rU n M λk=>k=j))):IL n M of (j+1) h v hi:=by
 refine .inr ⟨j,jb,ho,hd,λk hk hok hdk=>?_,hv,hH⟩
 grind
def aa4{h:Tr Bk}{b n:Nat}{c:Cap}{f:Nat->Bool}{o:Option (Nat×Nat)}(hb:h b=some ⟨bls n f,o⟩)(ho:YU o=true):HL h 1 (.sl b 0 n c) n λi=>[.bool (f i)]:=by refine .inr ⟨b,0,c,rfl,λi hi=>?_⟩;rw[ak hb,NG];dsimp only;rw[ho,cQ];unfold bls ones;have:=yS (e:=1) (k:=0) (m:=1) (G:=λi=>[B.bool (f i)]) true (λ_=>rfl) hi jj jj;rw[cE]at this;rw[this];rfl
def ajS{σ:St}(hW:WF σ){p:Nat->Prop}{mv ov:B}{n:Nat}{M:Nat->Nat->Rat}(hM:dR p σ.h mv n (λ_=>n) M)(hn:n<=1000)(hz:∀i k,i<n->k<=n->Sz (aB k λj=>M j i))(hz2:∀j i,j<n->i<n->Sz (M j i))(h0:∀j i,j<n->i<n->0<=M j i)
  {of:Nat->Bool}(ho:HL σ.h 1 ov n λi=>[.bool (of i)]):
  aC EN 67 [.c mv,.c ov] σ λr σ'=>(∃v,r=.c v/\IL n M of n σ'.h v σ'.aj)/\Fr σ σ':=by
 refine aP (qP.o _ _) qP.h ?_
 unfold qP
 dsimp only
 have hlen:=ho.len
 have hok:=ho.kn
 have hmk:=hM.kn
 simp(disch:=try exact jz) only[go_sem,z3,hlen,hmk]
 refine aF (λx tm σ'=>∃j bv,x=n-j/\j<=n/\Tr.ah tm 1=.c ov/\Tr.ah tm 2=.c (.ptr σ.aj 0)/\Tr.ah tm 5=.c bv/\Tr.ah tm 10=.c ov/\Tr.ah tm 11=.c (.int .i64 (.ofNat n))/\Tr.ah tm 12=.c (.int .i64 (.ofNat j))
  /\σ'.h σ.aj=some ⟨[mv],none⟩/\IL n M of j σ'.h bv σ'.aj/\Fr σ σ'/\σ.aj+1<=σ'.aj) n ?_ ?_
 .refine⟨0,.aX,jb,jb,?_⟩
  simp(disch:=try exact jz) only[go_sem,z3,am]
  exact⟨.inl ⟨rfl,λk h=>absurd h jb⟩,fr,jb⟩
 .rintro x tm σ' ⟨j,bv,rfl,hj,t1,t2,t5,t10,t11,t12,q2,hB,hf,hnx⟩
  have hle:=hf.le
  have lI:=Fr.refl hf.wf
  simp(disch:=try exact jz) only[go_sem,z3,t1,t2,t5,t10,t11,t12,aG]
  refine aH (λhlt=>?_) (λhlt=>?_)
  .obtain⟨bb,o,c,rfl,hld⟩:=ho.one jb
   have hld:=hf.ld hW (hld j hlt)
   cases hoj:of j with
   |false=>
    rw[hoj]at hld
    simp(disch:=try exact jz) only[go_sem,z3,t1,t2,t5,t10,t11,t12,hld]
    exact⟨n-(j+1),jb,j+1,bv,rfl,jb,rfl,rfl,q2,hB.no lI (λh=>by rw[hoj]at h;cases h),hf,hnx⟩
   |true=>
    rw[hoj]at hld
    simp(disch:=try exact jz) only[go_sem,z3,t1,t2,t5,t10,t11,t12,hld,hlen,ak q2,hmk]
    refine aC.st (Fr σ') (fr) λhF3=>?_
    have hst:=acZ n (λ_=>false) j true
    refine(ac0 hF3.wf (hM.fr hW (hf.trans hF3)) hn hz2 h0 (b:=σ'.aj) (f:=aO (λ_=>false) j true) ((aA _ _ _).trans (bV (λl=>some (Bk.mk l none)) hst))).mono ?_
    rintro _ σ2 ⟨⟨b2,c2,o2,g,rfl,hb2,ayi,hlt2,hg⟩,hf2⟩
    have hRL:gY g n=rU n M λk=>k=j:=anN hg λi=>by
     unfold aO;by_cases e:i=j
     .rw[ab e];exact⟨λ_=>e,λ_=>rfl⟩
     .rw[ae e];exact⟨λh=>(by cases h),λh=>absurd h e⟩
    have nN:=hF3.trans hf2
    simp(disch:=try exact jz) only[go_sem,z3,t1,t2,t5,t10,t11,t12]
    refine(ajR hf2.wf (aa4 hb2 ayi) hn).mono ?_
    rintro _ σ3 ⟨⟨b3,rfl,hN3⟩,hf3⟩
    have hok:=LU n M λk=>k=j
    have hl1:=IK g n
    rw[hRL]at hN3 hl1
    rw[hRL]
    have hpos:0<(rU n M λk=>k=j).length:=List.length_pos_of_mem ((hok.mem j).mpr (.base rfl hlt))
    have hH:=hN3.hlp jb (λ_ _=>rfl) (p:=λb=>b<σ3.aj) λb _ h=>h
    have ayj:aV (rU n M λk=>k=j).length b3=.sl b3 0 (rU n M λk=>k=j).length .opn:=by
     generalize (rU n M λk=>k=j).length=m at hpos;cases m with
     |zero=>omega
     |succ m=>rfl
    rw[ayj]at hH⊢
    have iH:=nN.trans hf3
    have q3:=iH.get hf.wf q2
    simp(disch:=try exact jz) only[go_sem,z3,t1,t2,t5,t10,t11,t12]
    refine(afq hf3.wf (hM.fr hW (hf.trans iH)) hn hz hz2 hH.hl jb hok.lt q3).mono ?_
    rintro _ σ4 ⟨⟨d,rfl,hd⟩,hf4⟩
    have lK:=iH.trans hf4
    have su:=hf.trans lK
    have hl6:=lK.le
    have q4:=hf4.get hf3.wf q3
    have hl4:=hf4.le
    have hH4:aZ (λb=>b<σ4.aj) σ4.h 1 (.sl b3 0 (rU n M λk=>k=j).length .opn) (rU n M λk=>k=j).length (F8 (rU n M λk=>k=j)):=hH.keep (λb hb=>hf4.old b hb) λb hb=>aE hb hl4
    cases d with
    |true=>
     simp(disch:=try exact jz) only[go_sem,z3,t1,t2,t5,t10,t11,t12]
     exact⟨n-(j+1),jb,j+1,bv,rfl,jb,rfl,rfl,q4,hB.no lK (λ_ h=>by have:=hd.mpr h;cases this),su,jb⟩
    |false=>
     have anO:=hd.mp rfl
     rcases hB with⟨rfl,hnb⟩|⟨i,h1,h2,h3,h4,⟨bi,rfl⟩,h6⟩
     .simp(disch:=try exact jz) only[go_sem,z3,t1,t2,t5,t10,t11,t12]
      exact⟨n-(j+1),jb,j+1,_,rfl,jb,rfl,rfl,q4,IL.get hoj anO (λk hk ho hdk=>absurd hdk (hnb k hk ho)) ⟨_,rfl⟩ hH4,su,jb⟩
     .simp(disch:=try exact jz) only[go_sem,z3,t1,t2,t5,t10,t11,t12,aG]
      refine aH (λhs=>?_) (λhs=>?_)
      .simp(disch:=try exact jz) only[go_sem,z3,t1,t2,t5,t10,t11,t12]
       exact⟨n-(j+1),jb,j+1,_,rfl,jb,rfl,rfl,q4,IL.get hoj anO (λk hk ho hdk=>av (iz hs) (h4 k hk ho hdk)) ⟨_,rfl⟩ hH4,su,jb⟩
      .simp(disch:=try exact jz) only[go_sem,z3,t1,t2,t5,t10,t11,t12]
       refine⟨n-(j+1),jb,j+1,_,rfl,jb,rfl,rfl,q4,.inr ⟨i,jb,h2,h3,λk hk ho hdk=>?_,⟨_,rfl⟩,h6.keep (λb hb=>lK.old b hb) λb hb=>aE hb hl6⟩,su,jb⟩
       rcases fe.mp hk with h'|rfl
       .exact h4 k h' ho hdk
       .omega
  .have:j=n:=jb
   subst this
   simp(disch:=try exact jz) only[go_sem,z3,t5]
   exact⟨⟨_,rfl,hB⟩,hf⟩
end Go.Proofs.Xe
