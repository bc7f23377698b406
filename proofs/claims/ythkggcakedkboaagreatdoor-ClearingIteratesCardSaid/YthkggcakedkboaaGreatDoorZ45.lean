import Derived.Test.YthkggcakedkboaaGreatDoorZ44
set_option linter.all false
set_option maxRecDepth 100000
set_option maxHeartbeats 8000000
namespace Go.Proofs.Xe
open Go.RowKit Go.Proofs.Ins
def EI{σ:St}(hW:WF σ){p p':Nat->Prop}{av bv:B}{n:Nat}{f g:Nat->Rat}(ha:iD p σ.h av n f)(hb:iD p' σ.h bv n g)(hn:n<=1000)(hf:∀i,i<n->Sz (f i))(hg:∀i,i<n->Sz (g i)):
  aC EN 21 [.c av,.c bv] σ λr σ'=>r=.c (.bool (decide (∀i,i<n->f i<=g i)))/\Fr σ σ':=by
 refine aP (CZ.o _ _) CZ.h ?_
 unfold CZ
 dsimp only
 have hla:=aW.len ha
 have hlb:=aW.len hb
 have hFr:=Fr.refl hW
 simp(disch:=try exact jz) only[go_sem,z3,hla,hlb]
 refine aF (λx tm σ'=>∃j,x=n-j/\j<=n/\Tr.ah tm 0=.c av/\Tr.ah tm 1=.c bv/\Tr.ah tm 7=.c (.int .i64 (.ofNat n))/\Tr.ah tm 8=.c (.int .i64 (.ofNat j))/\(∀i,i<j->f i<=g i)/\Fr σ σ') n ?_ ?_
 .refine⟨0,jb,jb,?_⟩
  simp(disch:=try exact jz) only[go_sem,z3,am]
  exact⟨λi hi=>jb,hFr⟩
 .rintro x tm σ' ⟨j,rfl,hj,t0,t1,t7,t8,hle,hF⟩
  simp(disch:=try exact jz) only[go_sem,z3,t0,t1,t7,t8,aG]
  refine aH (λhlt=>?_) (λhlt=>?_)
  .obtain⟨b5,o5,c5,rfl,-,bM⟩:=aW.at3 ha hlt
   obtain⟨b6,o6,c6,rfl,-,bY⟩:=aW.at3 hb hlt
   have bM:=hF.ld hW bM
   have bY:=hF.ld hW bY
   have jM:=Fr.refl hF.wf
   have z1:=hf j hlt
   have z2:=hg j hlt
   have hd:decide ((Int.ofNat n:Int)<=Int.ofNat j)=false:=az kd
   by_cases z3:f j<=g j
   .have hd2:decide ((Int.ofNat 0:Int)<oP (f j) (g j))=false:=az (Int.not_lt.mpr (nZ.mpr z3))
    simp(disch:=try exact jz) only[go_sem,z3,t0,t1,t7,t8,hd,hd2,bM,bY,hla,hlb]
    exact⟨n-(j+1),jb,j+1,rfl,jb,rfl,λi hi=>by
     rcases Nat.lt_or_eq_of_le (Nat.le_of_lt_succ hi)with h|rfl
     .exact hle i h
     .exact z3,hF⟩
   .have hd2:decide ((Int.ofNat 0:Int)<oP (f j) (g j))=true:=bh (Int.not_le.mp λh=>z3 (nZ.mp h))
    simp(disch:=try exact jz) only[go_sem,z3,t0,t1,t7,t8,hd,hd2,bM,bY,hla,hlb]
    exact⟨by rw[az λh=>z3 (h j hlt)],hF⟩
  .have:j=n:=jb
   subst this
   simp(disch:=try exact jz) only[go_sem,z3,t0,t1,hla,hlb]
   exact⟨by rw[bh hle],hF⟩
end Go.Proofs.Xe
namespace Go.Proofs.Ins
open Go.Proofs.Xe
def aob{l:fZ}(h:KA l)(c:Int):0<=lT l c:=by
 induction l with
 |nil=>exact aR
 |cons t l ih=>
  have:=ih h.tl.2
  have:=yK h.tl.1 c
  show 0<=gB t c+lT l c
  grind
def adk{l:fZ}(h:KA l)(c:Int):∀{m:Rat},0<=m->gZ l m c<=lT l c:=by
 induction l with
 |nil=>exact λ_=>aR
 |cons t l ih=>
  intro m hm
  have h1:=yK h.tl.1 c
  have h2:=aob h.tl.2 c
  show(if m<aV t then gB t c*(m/aV t)else gB t c+gZ l (m-aV t) c)<=gB t c+lT l c
  split
  .next hlt=>
   have h3:m/aV t<=1:=xQ kd kd
   have h4:=cT h3 h1
   grind
  .have:=ih h.tl.2 (m:=m-aV t) kd
   grind
def Py(t u:dO)(c:Int):gB (t++u) c=gB t c+gB u c:=by
 induction t with
 |nil=>show gB u c=0+gB u c;grind
 |cons p t ih=>show(if p.1=c then p.2 else 0)+gB (t++u) c=(if p.1=c then p.2 else 0)+gB t c+gB u c;rw[ih];grind
def aks(f:Nat->dO)(c:Int)(l:List Nat):lT (l.map f) c=aI l λr=>gB (f r) c:=by
 induction l with
 |nil=>rfl
 |cons a l ih=>show gB (f a) c+lT (l.map f) c=gB (f a) c+aI l _;rw[ih]
def adl(cs:List C5)(r c:Nat):∀k,gB (Dy cs r k) (c:Int)=if c<k/\(ix cs c).r=(r:Int)then(ix cs c).a.q else 0
 |0=>by rw[ae jb];rfl
 |k+1=>by
  show gB (Dy cs r k++_) _=_;rw[Py,adl cs r c k];by_cases e:c=k
  .subst e;by_cases h:(ix cs c).r=(r:Int)
   .rw[ae jb,ab h,ab ⟨jb,h⟩];show 0+((if((c:Nat):Int)=(c:Int)then _ else 0)+0)=_;rw[ab rfl];grind
   .rw[ae jb,ae h,ae (λe=>h e.2)];show(0:Rat)+0=0;grind
  .have h0:gB (if(ix cs k).r=(r:Int)then [((k:Int),(ix cs k).a.q)]else []) (c:Int)=0:=by
    split
    .show(if(k:Int)=(c:Int)then _ else(0:Rat))+0=0;rw[ae jb];grind
    .rfl
   rw[h0];by_cases h:c<k/\(ix cs c).r=(r:Int)
   .rw[ab h,ab ⟨jb,h.2⟩];grind
   .rw[ae h,ae (λe=>h ⟨jb,e.2⟩)];grind
def afG(f:Nat->Rat):aI (List.range 8) f=f 0+(f 1+(f 2+(f 3+(f 4+(f 5+(f 6+f 7)))))):=by show f 0+(f 1+(f 2+(f 3+(f 4+(f 5+(f 6+(f 7+0)))))))=_;rw[cQ]
def ati{cs:List C5}{c r:Nat}(hc:c<cs.length)(hr:r<8)(e:(ix cs c).r=(r:Int)):lT (XQ cs cs.length) (c:Int)=(ix cs c).a.q:=by unfold XQ;rw[aks,afG];simp only[adl,hc,am,e];have:r=0\/r=1\/r=2\/r=3\/r=4\/r=5\/r=6\/r=7:=jb;rcases this with rfl|rfl|rfl|rfl|rfl|rfl|rfl|rfl<;>simp<;>grind
def atj{s:(Nat->Rat)×dO}{x:Au}(hx:x.k=-1\/0<=x.k)(i:Nat):(Lr s x).1 i+gB (Lr s x).2 (i:Int)=s.1 i+gB s.2 (i:Int):=by
 unfold Lr;by_cases e:x.k=-1
 .rw[ab e];show s.1 i+gB (s.2++[((-1:Int),x.a.q)]) (i:Int)=_;rw[Py];show s.1 i+(gB s.2 i+((if(-1:Int)=(i:Int)then _ else 0)+0))=_;rw[ae jb];grind
 .rw[ae e];dsimp only;rw[Py];generalize (if x.b=true then jy (s.1 x.k.toNat) x.a.q else s.1 x.k.toNat)=v;show(if i=x.k.toNat then s.1 i-v else s.1 i)+(gB s.2 i+((if x.k=(i:Int)then v else 0)+0))=_;by_cases h:i=x.k.toNat
  .rw[ab h,ab jb];grind
  .rw[ae h,ae jb];grind
def adn:∀(t:H6){s:(Nat->Rat)×dO},(∀x∈t,x.k=-1\/0<=x.k)->∀i:Nat,(t.foldl Lr s).1 i+gB (t.foldl Lr s).2 (i:Int)=s.1 i+gB s.2 (i:Int)
 |[],_,_,_=>rfl
 |x::t,s,h,i=>(adn t (s:=Lr s x) (λy hy=>h y (by simp[hy])) i).trans (atj (h x kc) i)
def VE:∀(a:iy){s:(Nat->Rat)×fZ},(∀t∈a,∀x∈t,x.k=-1\/0<=x.k)->∀i:Nat,(a.foldl ltS s).1 i+lT (a.foldl ltS s).2 (i:Int)=s.1 i+lT s.2 (i:Int)
 |[],_,_,_=>rfl
 |t::a,s,h,i=>by refine(VE a (s:=ltS s t) (λu hu=>h u (by simp[hu])) i).trans ?_;show(t.foldl Lr (s.1,[])).1 i+lT (s.2++[(t.foldl Lr (s.1,[])).2]) (i:Int)=_;rw[Eo];have:=adn t (s:=(s.1,[])) (h t kc) i;have e:gB [] (i:Int)=0:=rfl;dsimp only at this;rw[e]at this;grind
def VF(f:Nat->Rat)(i:Nat):∀ms:List Nat,ms.Nodup->gB (vM ms f) (i:Int)=if i∈ms then f i else 0
 |[],_=>by rw[ae kc];rfl
 |a::ms,h=>by
  rw[gS]at h;show(if(a:Int)=(i:Int)then f a else 0)+gB (vM ms f) i=_;rw[VF f i ms h.2];by_cases e:i=a
  .subst e;rw[ab rfl,ae h.1,ab kc];grind
  .rw[ae jb];by_cases h2:i∈ms
   .rw[ab h2,ab (by simp[h2])];grind
   .rw[ae h2,ae (by simp[e,h2])];grind
def akt{n:Nat}{cs:List C5}{a:iy}(ha:∀t∈a,∀x∈t,x.k=-1\/0<=x.k/\x.k<n){i:Nat}(hi:i∈jW a):lT (oK cs a).2 (i:Int)=(ix cs i).a.q:=by show lT ((lsA cs a).2++[vM (jW a) (lsA cs a).1]) (i:Int)=_;rw[Eo,VF _ _ _ (F5 ha),ab hi];have:=VE a (s:=((λi:Nat=>(ix cs i).a.q),[])) (λt ht x hx=>by have:=ha t ht x hx;omega) i;have e:lT [] (i:Int)=0:=rfl;dsimp only at this;rw[e]at this;unfold lsA;grind
def YO{i:Nat}:∀(t:H6){s:(Nat->Rat)×dO},(∀x∈t,x.k=-1\/0<=x.k/\x.k≠(i:Int))->(t.foldl Lr s).1 i=s.1 i
 |[],_,_=>rfl
 |x::t,s,h=>by
  refine(YO t (s:=Lr s x) λy hy=>h y (by simp[hy])).trans ?_;have hx:=h x kc;unfold Lr;by_cases e:x.k=-1
  .rw[ab e]
  .rw[ae e];exact ae jb
def YP{i:Nat}:∀(a:iy){s:(Nat->Rat)×fZ},(∀t∈a,∀x∈t,x.k=-1\/0<=x.k/\x.k≠(i:Int))->(a.foldl ltS s).1 i=s.1 i
 |[],_,_=>rfl
 |t::a,s,h=>(YP a (s:=ltS s t) λu hu=>h u (by simp[hu])).trans (YO t (h t kc))
def aoc{n:Nat}{cs:List C5}{a:iy}(ha:∀t∈a,∀x∈t,x.k=-1\/0<=x.k/\x.k<n){i:Nat}(hi:i∉jW a):lT (oK cs a).2 (i:Int)=0:=by
 show lT ((lsA cs a).2++[vM (jW a) (lsA cs a).1]) (i:Int)=_;rw[Eo,VF _ _ _ (F5 ha),ae hi];have h1:=VE a (s:=((λi:Nat=>(ix cs i).a.q),[])) (λt ht x hx=>by have:=ha t ht x hx;omega) i;have h2:=YP (i:=i) a (s:=((λi:Nat=>(ix cs i).a.q),[])) (λt ht x hx=>by
  rcases ha t ht x hx with h|h
  .exact .inl h
  .refine .inr ⟨h.1,λe=>hi ((uS ha).mpr ?_)⟩;unfold NM;refine fq.mpr ⟨t,ht,?_⟩;unfold memT;exact fq.mpr ⟨x,hx,by rw[e];simp⟩)
 have e:lT [] (i:Int)=0:=rfl;dsimp only at h1 h2;rw[e]at h1;unfold lsA;grind
theorem zC{l:fZ}(h:KA l):0<=lI l:=by
 induction l with
 |nil=>exact aR
 |cons u l ih=>show 0<=aV u+lI l;have:=ih h.tl.2;have:=yL h.tl.1;grind
def YI{l:fZ}(h:KA l):∀{m:Rat},lI l<=m->jF l m=lI l:=by
 induction l with
 |nil=>exact λ_=>rfl
 |cons t l ih=>
  intro m hm
  have hm:aV t+lI l<=m:=hm
  have h1:=zC h.tl.2
  show(if m<aV t then m else aV t+jF l (m-aV t))=aV t+lI l
  rw[ae kd,ih h.tl.2 kd]
section
variable {A:Nat} {e:AU} {x:Rat}
def aod(h:JA A e){p:List Nat×fZ}(hp:p∈(dh e).ps):∃a,p=oK e.c a/\∀t∈a,∀x∈t,x.k=-1\/0<=x.k/\x.k<e.c.length:=by obtain⟨a,ha,rfl⟩:=cL.mp hp;obtain⟨j,hj,rfl⟩:=aM ha;exact⟨_,rfl,λt ht x hx=>((h.a j hj).p t (by rw[dX hj];exact ht) x hx).1⟩
def aoe(h:JA A e)(hN:Aw (dh e))(hx:0<=x){c:Nat}(hc:c<e.c.length):y7 (dh e) x c<=(ix e.c c).a.q:=by obtain⟨r,hr,er⟩:=h.r c hc;have:=adk hN.rk (c:Int) hx;rw[show lT (dh e).rk (c:Int)=_ from ati hc hr er]at this;exact this
def aof(h:JA A e)(hN:Aw (dh e))(hI:InE e.c.length (dh e))(hx:0<=x){c:Nat}(hc:c<e.c.length):rF (dh e) x c<=(ix e.c c).a.q:=by
 have hA:=(h.c c).2.1;have hp:∀p∈(dh e).ps,gZ p.2 (kL (dh e) x p) c<=if c∈p.1 then(ix e.c c).a.q else 0:=λp hp=>by
  have h1:=adk (hN.ps p hp) (c:Int) (nI hN hx p);obtain⟨a,rfl,ha⟩:=aod h hp;by_cases hm:c∈jW a
  .rw[akt ha hm]at h1;rw[ab (show c∈(oK e.c a).1 from hm)];exact h1
  .rw[aoc ha hm]at h1;rw[ae (show¬c∈(oK e.c a).1 from hm)];exact h1
 have h2:=um hp;have h3:∀ps:List (List Nat×fZ),(ps.flatMap (·.1)).Nodup->aI ps (λp=>if c∈p.1 then(ix e.c c).a.q else 0)=if c∈ps.flatMap (·.1)then(ix e.c c).a.q else 0:=λps=>by
  induction ps with
  |nil=>exact λ_=>rfl
  |cons p ps ih=>
   intro hn
   rw[ga,gb]at hn
   show(if c∈p.1 then _ else _)+aI ps _=_
   rw[ih hn.2.1,ga]
   by_cases e1:c∈p.1
   .rw[ab e1,ae (λe2=>hn.2.2 c e1 c e2 rfl),ab (bL.mpr (.inl e1))];grind
   .rw[ae e1]
    by_cases e2:c∈ps.flatMap (·.1)
    .rw[ab e2,ab (bL.mpr (.inr e2))];grind
    .rw[ae e2,ae (λe=>(bL.mp e).elim e1 e2)];grind
 rw[h3 _ hI.dis]at h2;have h4:=aoe h hN hx hc;have h5:=Oi (dh e) c;unfold rF;by_cases hq:pooled (dh e) c=true
 .rw[ab (h5.mp hq)]at h2;rw[ab hq];grind
 .rw[ae (λe=>hq (h5.mpr e))]at h2;rw[ae hq];grind
end
end Go.Proofs.Ins
namespace Go.Proofs.Xe
open Go.RowKit Go.Proofs.Ins
section
variable {g:gQ} {x y:Nat→Rat}
def apf{n:Nat}{g:GL}(hg:I5 n g){x:Nat->Rat}(hx:Nn n x)(j:Nat):0<=gG n g x j:=by
 unfold gG;have a:0<=aB n (λi=>aB (g.k i) λc=>if tX g j i c then gq g x (i,c)else 0):=pF λi hi=>pF λc _=>by grind[Dw]
 have b:0<=aI g.ds (dG g x j):=jC λd hd=>by
  have hl:=λl hl=>qh hg hd (l:=l) hl;have e:=hg.pos d hd;have e1:0<=aI d.2 (gq g x):=jC λl h=>Dw hg hx (hl l h);have e2:=Il (W:=d.1) (q:=λ_=>0) (q':=ig n (gq g x)) (λ_=>aR) (λl=>by grind[ig,Dw]) j d.2 0 0 aR
  rw[Iy j _ _ hl]at e2;have e3:nJ d.1 (λ_=>0) 0 d.2 j=0:=by
   have:∀t:List fC,nJ d.1 (λ_=>0) 0 t j=0:=λt=>by
    induction t with
    |nil=>rfl
    |cons l t ih=>
     grind[nJ]
   grind
  grind[jy,dG]
 grind
def afH(g:gQ):Rat:=aB g.e.length λi=>mP (ix g.e i) (kE g.e i)
def jO.ayw(h:jO g){i:Nat}(hi:i<g.e.length):JA 60 (ix g.e i)/\Aw (dh (ix g.e i))/\InE (kE g.e i) (dh (ix g.e i)):=⟨h.bld.e i hi,IB ((Ko h.z).e i hi)⟩
def jO.aku(h:jO g)(hx:Nn g.e.length x){j:Nat}(hj:j<g.e.length):gG g.e.length (bf g) x j<=afH g:=by
 have h1:=aar h.EU x hx;have h2:aB g.e.length (λi=>aB ((bf g).k i) (rF ((bf g).e i) (x i)))<=afH g:=mO λi hi=>mO λc hc=>by obtain⟨k1,k2,k3⟩:=h.ayw hi;exact aof k1 k2 k3 (hx i hi) hc
 have h3:0<=aB g.e.length λi=>aB ((bf g).k i) (Oh (bf g) x i):=pF λi hi=>pF λc _=>by
  unfold Oh;split
  .exact Dw h.EU hx hi
  .exact aR
 have h4:0<=aI (bf g).ds (XP (bf g) x):=jC λd hd=>by
  have hW:=h.EU.pos d hd;have hq:0<=aI d.2 (gq (bf g) x):=jC λl hl=>Dw h.EU hx (qh h.EU hd hl);unfold XP jy;split
  .split<;>assumption
  .exact aR
 have h5:=uN (f:=gG g.e.length (bf g) x) hj λi _=>apf h.EU hx i;have e1:=fH g.e.length x (gG g.e.length (bf g) x);have e2:=fH g.e.length x λi=>aB ((bf g).k i) (rF ((bf g).e i) (x i));grind
def ado(h:jO g)(hx:Nn g.e.length x){j:Nat}(hj:j<g.e.length):0<=wL g x j:=by have h1:=apf h.EU hx j;have h2:=(h.m j hj).2.2.1;show 0<=(ix g.e j).m.q+gG g.e.length (bf g) x j;grind
def EJ(h:jO g)(hx:Nn g.e.length x)(hxy:Le g.e.length x y)(j:Nat):wL g x j<=wL g y j:=by have h1:=acC h.EU hx hxy j;show(ix g.e j).m.q+gG g.e.length (bf g) x j<=(ix g.e j).m.q+gG g.e.length (bf g) y j;grind
def jO.all_le(h:jO g):0<=afH g/\afH g<=2880:=by
 have h1:∀i,i<g.e.length->0<=mP (ix g.e i) (kE g.e i)/\mP (ix g.e i) (kE g.e i)<=360:=λi hi=>by obtain⟨-,h2,h3⟩:=Px (h.cap i hi) (kE g.e i);have h4:((kE g.e i:Nat):Rat)<=((6:Nat):Rat):=bj.mpr (h.k6 i hi);have e6:((6:Nat):Rat)=6:=rfl;exact⟨h2,by unfold mP;grind⟩
 refine⟨pF λi hi=>(h1 i hi).1,?_⟩;have h2:afH g<=aB g.e.length λ_=>360:=mO λi hi=>(h1 i hi).2;have h3:∀n:Nat,aB n (λ_=>(360:Rat))=(n:Rat)*360:=λn=>by
  induction n with
  |zero=>show(0:Rat)=((0:Nat):Rat)*360;simp
  |succ n ih=>show aB n _+360=_;rw[ih,ff];have:((1:Nat):Rat)=1:=rfl;grind
 rw[h3]at h2;have h4:((g.e.length:Nat):Rat)<=((8:Nat):Rat):=bj.mpr h.n;have e8:((8:Nat):Rat)=8:=rfl;grind
def jO.aog(h:jO g)(hx:Nn g.e.length x){j:Nat}(hj:j<g.e.length):wL g x j<=2940:=by have h1:=h.aku hx hj;have h2:=h.all_le;have h3:=(h.m j hj).2.2.2;show(ix g.e j).m.q+gG g.e.length (bf g) x j<=_;grind
def ItZ(g:gQ)(k:Nat)(x:Nat->Rat):Prop:=∃B b,60∣B/\0<B/\B<=2^b/\b<=1000+408*k/\∀i,i<g.e.length->SmB B (x i)
def ItZ.nn{k:Nat}(h:ItZ g k x):Nn g.e.length x:=by obtain⟨B,b,-,-,-,-,h⟩:=h;exact λi hi=>(h i hi).2.1
def ItZ.sz{k:Nat}(h:ItZ g k x)(hk:k<=100):∀i,i<g.e.length->Sz (x i):=by obtain⟨B,b,-,hB0,hb,hbk,hx⟩:=h;exact λi hi=>(DT hB0 hb (hx i hi).1 (by have:=(hx i hi).2.1;grind) (hx i hi).2.2).sz jb
def ItZ.step{k:Nat}(h:jO g)(hz:ItZ g k x)(hk:k<=100):(∃D,Vd 60 D g x)/\ItZ g (k+1) (wL g x):=by
 obtain⟨B,b,h6,hB0,hb,hbk,hx⟩:=hz;have hx0:Nn g.e.length x:=λi hi=>(hx i hi).2.1;have hM:=h.map hB0 h6 hb jb hx;obtain⟨g1,g2⟩:=h.gE (λi hi=>(hx i hi).2.1);refine⟨⟨_,hM⟩,B*gE g x,b+eB,bX h6 (be _ _),ck hB0 g1,nY hb g2,by rw[SC];omega,λi hi=>⟨?_,ado h hx0 hi,?_⟩⟩
 .obtain⟨a,e,-⟩:=anz hM hi;exact⟨a,e⟩
 .have:=h.aog hx0 hi;grind
def akv(g:gQ)(j:Nat):Rat:=aB j λi=>iw g i+mP (ix g.e i) (kE g.e i)
def PS(g:gQ)(j:Nat)(s:Rat):Prop:=dR 60 s/\akv g j<=s/\0<=s/\s<=1000*(j:Rat)
def PI(g:gQ)(j k:Nat)(s:Rat):Prop:=dR 60 s/\akv g j+iw g j+mP (ix g.e j) k<=s/\0<=s/\s<=1000*(j:Rat)+60+120*(k:Rat)
def akw{s:Rat}(h:dR 60 s)(h0:0<=s)(h1:s<=100000):Sz s:=(DT (D:=60) (b:=6) jj jj h kd h1).sz jj
theorem PS.zero:PS g 0 0:=⟨dR.zero _,aR,aR,by show(0:Rat)<=1000*((0:Nat):Rat);simp⟩
def IZ{a b:Nat}(h:a<=b):(a:Rat)<=(b:Rat):=bj.mpr h
def PS.sz{j:Nat}{s:Rat}(h:PS g j s)(hj:j<=8):Sz s:=akw h.1 h.2.2.1 (by have h1:=IZ hj;have h2:=h.2.2.2;have e:((8:Nat):Rat)=8:=rfl;grind)
def PI.sz{j k:Nat}{s:Rat}(h:PI g j k s)(hj:j<=8)(hk:k<=6):Sz s:=akw h.1 h.2.2.1 (by have h1:=IZ hj;have h2:=IZ hk;have h3:=h.2.2.2;have e:((8:Nat):Rat)=8:=rfl;have e6:((6:Nat):Rat)=6:=rfl;grind)
def PS.ayx{j:Nat}{s:Rat}(h:PS g j s)(hm:nX 60 60 (iw g j)):PI g j 0 (s+iw g j):=by obtain⟨h1,h2,h3,h4⟩:=h;have e:((0:Nat):Rat)=0:=rfl;have e2:mP (ix g.e j) 0=0:=rfl;exact⟨h1.add hm.1,by rw[e2];grind,by have:=hm.2.1;grind,by have:=hm.2.2;rw[e];grind⟩
def PI.claim{j k:Nat}{s:Rat}(h:PI g j k s)(ha:nX 60 60 (ix (ix g.e j).c k).a.q):PI g j (k+1) (s+((ix (ix g.e j).c k).a.q+(ix (ix g.e j).c k).a.q)):=by obtain⟨h1,h2,h3,h4⟩:=h;obtain⟨a1,a2,a3⟩:=ha;have e:((k+1:Nat):Rat)=(k:Rat)+1:=ff _ _;have e2:mP (ix g.e j) (k+1)=mP (ix g.e j) k+(ix (ix g.e j).c k).a.q:=rfl;exact⟨h1.add (a1.add a1),by rw[e2];grind,by grind,by rw[e];grind⟩
def PI.next{j:Nat}{s:Rat}(h:PI g j (kE g.e j) s)(hk:kE g.e j<=6):PS g (j+1) s:=by obtain⟨h1,h2,h3,h4⟩:=h;have e:((j+1:Nat):Rat)=(j:Rat)+1:=ff _ _;have e2:akv g (j+1)=akv g j+(iw g j+mP (ix g.e j) (kE g.e j)):=rfl;have h5:=IZ hk;have e6:((6:Nat):Rat)=6:=rfl;exact⟨h1,by rw[e2];grind,h3,by rw[e];grind⟩
def HiG(g:gQ)(s:Rat):Prop:=SmB 60 s/\∀y,Nn g.e.length y->∀i,i<g.e.length->wL g y i<=s
def PS.hi(h:jO g){s:Rat}(hs:PS g g.e.length s):HiG g s:=by obtain⟨h1,h2,h3,h4⟩:=hs;have h5:=IZ h.n;have e:((8:Nat):Rat)=8:=rfl;refine⟨⟨h1,h3,by grind⟩,λy hy i hi=>?_⟩;have k1:=h.aku hy hi;have k2:=uN (f:=iw g) hi λj hj=>(h.m j hj).2.2.1;have k3:akv g g.e.length=aB g.e.length (iw g)+afH g:=bK _ _ _;show iw g i+gG g.e.length (bf g) y i<=s;grind
end
def NF.app{h':Tr Bk}{nx i lo n' ty:Nat}{f:Nat->Rat}{s:Rat}(hb:h' nx=some ⟨bH i (λj=>dQ (f j))++dQ s,some (3,ty)⟩)(h1:lo<=nx)(h2:nx<n'):NF YV h' nx (i+1) (λj=>dQ (aN f i s j)) 3 ty lo n':=by
 refine⟨?_,λ_=>rfl,h1,.inr h2,λ_ _=>trivial⟩;show h' nx=some _;rw[hb,kT];congr 2;refine bW λj _=>?_;unfold jk;by_cases e:j=i
 .rw[ab e,e,aO]
 .rw[ae e,aQ _ _ _ _ e]
def afI(i:Nat):aN (λ_:Nat=>(0:Rat)) i 0=λ_=>0:=by funext j;unfold aN;split<;>rfl
def adp(h:Tr Bk){i hb lb N:Nat}(K1 K2 B1 B2:Bk)(hh:i=0\/hb<N)(hl:i=0\/lb<N):
  hset (jl i (hset (hset (jl i (hset h N K1) hb) (N+1) B1) (N+1+1) K2) lb) (N+1+1+1) B2 (N+1)=some B1/\hset (jl i (hset (hset (jl i (hset h N K1) hb) (N+1) B1) (N+1+1) K2) lb) (N+1+1+1) B2 (N+1+1+1)=some B2
   /\∀y,y<N->i=0\/y≠hb/\y≠lb->hset (jl i (hset (hset (jl i (hset h N K1) hb) (N+1) B1) (N+1+1) K2) lb) (N+1+1+1) B2 y=h y:=by
 refine⟨?_,aA _ _ _,λy hy he=>?_⟩
 .rw[au _ _ _ _ jb,fA _ _ _ _ jb,au _ _ _ _ jb,aA]
 .rw[au _ _ _ _ jb,fA _ _ _ _ jb,au _ _ _ _ jb,au _ _ _ _ jb,fA _ _ _ _ jb,au _ _ _ _ jb]
def Pz{σ:St}(hW:WF σ){nm Yj nl np nd sv:Nat}(hnm:nm<=255){cv lv pv dv:B}(M:Nat->Nat)(L P D:Nat->Nat->Nat)(hcv:HL σ.h 1 cv Yj λi=>[.int .u16 (.ofNat (M i))])(hM:∀i,i<Yj->M i<=65535)
  (hlv:HL σ.h 4 lv nl λi=>[.int .u16 (.ofNat (L i 0)),.int .u16 (.ofNat (L i 1)),.int .u16 (.ofNat (L i 2)),.int .u16 (.ofNat (L i 3))]) (hL:∀i j,i<nl->L i j<=65535) (hnl:nl<=9223372036854775806)
  (hpv:HL σ.h 3 pv np λi=>[.int .u16 (.ofNat (P i 0)),.int .u16 (.ofNat (P i 1)),.int .u16 (.ofNat (P i 2))]) (hP:∀i j,i<np->P i j<=65535) (hnp:np<=9223372036854775806)
  (hdv:HL σ.h 3 dv nd λi=>[.int .u16 (.ofNat (D i 0)),.int .u16 (.ofNat (D i 1)),.int .u16 (.ofNat (D i 2))]) (hD:∀i j,i<nd->D i j<=65535) (hnd:nd<=9223372036854775806) (hsv:sv<=255):
  aC EN 5 [.c (.int .u8 (.ofNat nm)),.c cv,.c lv,.c pv,.c dv,.c (.int .u8 (.ofNat sv))] σ λr _=>r=.c (.bool true):=by
 refine aP (lX.o _ _) lX.h ?_
 unfold lX
 dsimp only
 simp(disch:=try exact jz) only[go_sem,z3]
 refine(anx hW hnm M L P D hcv hM hlv hL hnl hpv hP hnp hdv hD hnd).mono ?_
 rintro _ σ1 ⟨eb,dv',m,cl,bs,A,al,dl,rfl,hI⟩
 have hs1:1<=1+nm%4:=jb
 have hs4:1+nm%4<=4:=jb
 generalize 1+nm%4=n at*
 have hB:=hI.bg jb hs4
 have hF1:=hI.fr
 have hg1:=hI.g.grp .opn
 have hn:=zD n m cl al dl
 have hG:=hB.y7
 have hek:=hg1.e.kn
 have hdk:=hg1.d.kn
 have hFr:=Fr.refl hF1.wf
 simp(disch:=try exact jz) only[go_sem,z3,hek,hdk]
 refine aC.st (Fr σ1) (fr) λhF=>?_
 refine(VA (g:=wz n m cl al dl) hF.wf (hg1.fr hF1.wf hF) hG).mono ?_
 rintro _ σ2 ⟨x,⟨rr,rfl,hV⟩,hPx,hIx,hgt,hf2⟩
 obtain⟨cm,G,Dv,Rf,Nt,Su,Re,Fu,rfl,v1,v2,v3,v4,v5,v6,v7,v8⟩:=hV
 have k1:=aW.kn v1;have k2:=v2.kn;have k3:=v3.kn;have k4:=v4.kn;have k5:=v5.kn;have k6:=aW.kn v6;have k7:=aW.kn v7;have k8:=aW.kn v8
 have hF2:=hF.trans hf2
 have q2:=hf2.get hF.wf (aA _ _ _)
 have Ya:=Fr.refl hf2.wf
 have hl2:=hF2.le
 have ayy:σ1.aj+1<=σ2.aj:=hf2.le
 simp(disch:=try exact jz) only[go_sem,z3,ak q2,q2,hek,hdk,k1,k2,k3,k4,k5,k6,k7,k8]
 refine aC.st (Fr σ2) (fr) λhFa=>?_
 have awV:=hF2.trans hFa
 refine(adh (g:=wz n m cl al dl) hFa.wf (hg1.fr hF1.wf awV) hG).mono ?_
 rintro _ σ3 ⟨y,⟨rr,rfl,hV⟩,hPy,hIy,hls,hf3⟩
 obtain⟨cm',G',Dv',Rf',Nt',Su',Re',Fu',rfl,w1,w2,w3,w4,w5,w6,w7,w8⟩:=hV
 have j1:=aW.kn w1;have j2:=w2.kn;have j3:=w3.kn;have j4:=w4.kn;have j5:=w5.kn;have j6:=aW.kn w6;have j7:=aW.kn w7;have j8:=aW.kn w8
 have hF3:=awV.trans hf3
 have q3:=(hFa.trans hf3).get hf2.wf q2
 have q12:=hf3.get hFa.wf (aA _ _ _)
 have aiL:=Fr.refl hf3.wf
 rw[hn]at v1 w1
 have hlx:=aW.len v1
 have hly:=aW.len w1
 have hd0:decide (Int.ofNat n=Int.ofNat n)=true:=bh rfl
 have hl3:σ2.aj+1<=σ3.aj:=hf3.le
 have azM:σ1.aj<σ2.aj:=ayy
 have hlG:lenV (.c (.sl eb 0 n .opn))=some (.c (.int .i64 (.ofNat n))):=rfl
 simp(disch:=try exact jz) only[go_sem,z3,ak q3,ak q12,q3,q12,hek,hdk,k1,j1,j2,j3,j4,j5,j6,j7,j8,hlx,hly,hd0,hlG]
 have hE:=hg1.e
 have hEl:(iZ n m cl al).length=n:=hn
 have an8:Fr σ1 σ3:=hF.trans (hf2.trans (hFa.trans hf3))
 have hlo:=hF1.le
 have hix:∀i,i<n->ix (wz n m cl al dl).e i=⟨uF (m i),cl i,al i⟩:=λi hi=>Yo m cl al dl hi
 have hcs:∀i,i<n->iw (wz n m cl al dl) i=m i:=λi hi=>by unfold iw;rw[hix i hi];exact Fb _
 have hmc:∀i,i<n->nX 60 60 (m i):=λi hi=>by rw[<-hcs i hi];exact(hG.m i jb).2
 have hkE:∀i,i<n->kE (wz n m cl al dl).e i=(cl i).length:=λi hi=>by unfold kE;rw[hix i hi]
 have hk6:∀i,i<n->(cl i).length<=6:=λi hi=>by rw[<-hkE i hi];exact hG.k6 i jb
 have hcl:∀i,i<n->∀k,k<(cl i).length->∃q,(ix (cl i) k).a=uF q:=λi hi k hk=>by obtain⟨-,-,v,e⟩:=(hB.c i hi).2 k hk;exact⟨_,e⟩
 refine bF.mono (Q:=λe tm σ'=>e=.exit 0/\∃(hb lb:Nat) (hi:Nat->Rat),Tr.ah tm 5=.c (.int .u8 (.ofNat sv))/\Tr.ah tm 13=.c (.ptr σ1.aj 0)/\Tr.ah tm 14=.c (.ptr σ2.aj 0)/\Tr.ah tm 16=.c (.ptr σ3.aj 0)/\Tr.ah tm 18=.c (aS n hb)/\Tr.ah tm 19=.c (aS n lb)
   /\NF YV σ'.h hb n (λj=>dQ (hi j)) 3 42 (σ3.aj+1) σ'.aj/\NF YV σ'.h lb n (λ_=>dQ 0) 3 42 (σ3.aj+1) σ'.aj/\(∀j,j<n->HiG (wz n m cl al dl) (hi j))/\σ'.h σ3.aj=some ⟨[cm',G',Dv',Rf',Nt',Su',Re',Fu'],none⟩/\Fr σ3 σ'/\σ3.aj+1<=σ'.aj)
  (aF (λq tm σ'=>∃(i hb lb:Nat) (hi:Nat->Rat),q=n-i/\i<=n/\Tr.ah tm 5=.c (.int .u8 (.ofNat sv))/\Tr.ah tm 13=.c (.ptr σ1.aj 0)/\Tr.ah tm 14=.c (.ptr σ2.aj 0)/\Tr.ah tm 16=.c (.ptr σ3.aj 0)/\Tr.ah tm 18=.c (aS i hb)/\Tr.ah tm 19=.c (aS i lb)/\Tr.ah tm 55=.c (.int .i64 (.ofNat n))/\Tr.ah tm 56=.c (.int .i64 (.ofNat i))
   /\NF YV σ'.h hb i (λj=>dQ (hi j)) 3 42 (σ3.aj+1) σ'.aj/\NF YV σ'.h lb i (λ_=>dQ 0) 3 42 (σ3.aj+1) σ'.aj/\(i=0\/hb≠lb)/\(∀j,j<i->HiG (wz n m cl al dl) (hi j))/\σ'.h σ3.aj=some ⟨[cm',G',Dv',Rf',Nt',Su',Re',Fu'],none⟩/\Fr σ3 σ'/\σ3.aj+1<=σ'.aj) n ?_ ?_) ?_
 .refine⟨0,σ3.aj+1,σ3.aj+1,λ_=>0,jb,jb,?_⟩
  simp(disch:=try exact jz) only[go_sem,z3,am]
  exact⟨rfl,rfl,NF.nil λ_=>rfl,NF.nil λ_=>rfl,.inl trivial,λj hj=>jb,fr,jp⟩
 .rintro _ tm σ4 ⟨i,hb,lb,hi,rfl,hi',t5,t13,t14,t16,je,t19,t55,t56,nH,nL,hne,hH,p3,hf4,hl4⟩
  have akx:=an8.trans hf4
  have DF:=Fr.refl hf4.wf
  have hlt1:σ1.aj<=σ4.aj:=akx.le
  simp(disch:=try exact jz) only[go_sem,z3,t5,t13,t14,t16,je,t19,t55,t56,aG]
  refine aH (λhlt=>?_) (λhlt=>?_)
  .have q13:=hf4.get hf3.wf q3
   simp(disch:=try exact jz) only[go_sem,z3,t5,t13,t14,t16,je,t19,t55,t56,ak q13,q13]
   refine bF.mono (Q:=λe tm σ'=>e=.exit 2/\∃s,Tr.ah tm 5=.c (.int .u8 (.ofNat sv))/\Tr.ah tm 13=.c (.ptr σ1.aj 0)/\Tr.ah tm 14=.c (.ptr σ2.aj 0)/\Tr.ah tm 16=.c (.ptr σ3.aj 0)/\Tr.ah tm 18=.c (aS i hb)/\Tr.ah tm 19=.c (aS i lb)/\Tr.ah tm 20=.c (.int .i64 (.ofNat i))/\Tr.ah tm 55=.c (.int .i64 (.ofNat n))/\Tr.ah tm 56=.c (.int .i64 (.ofNat i))/\Tr.ah tm 21=.c (.ptr σ4.aj 0)/\σ'.h σ4.aj=some ⟨dQ s,none⟩/\PS (wz n m cl al dl) n s/\Fr σ4 σ'/\σ4.aj+1<=σ'.aj)
    (aF (λq tm σ'=>∃j s,q=n-j/\j<=n/\Tr.ah tm 5=.c (.int .u8 (.ofNat sv))/\Tr.ah tm 13=.c (.ptr σ1.aj 0)/\Tr.ah tm 14=.c (.ptr σ2.aj 0)/\Tr.ah tm 16=.c (.ptr σ3.aj 0)/\Tr.ah tm 18=.c (aS i hb)/\Tr.ah tm 19=.c (aS i lb)/\Tr.ah tm 20=.c (.int .i64 (.ofNat i))/\Tr.ah tm 55=.c (.int .i64 (.ofNat n))/\Tr.ah tm 56=.c (.int .i64 (.ofNat i))/\Tr.ah tm 21=.c (.ptr σ4.aj 0)/\Tr.ah tm 61=.c (.sl eb 0 n .opn)/\Tr.ah tm 62=.c (.int .i64 (.ofNat n))/\Tr.ah tm 63=.c (.int .i64 (.ofNat j))/\σ'.h σ4.aj=some ⟨dQ s,none⟩/\PS (wz n m cl al dl) j s/\Fr σ4 σ'/\σ4.aj+1<=σ'.aj) n ?_ ?_) ?_
   .refine⟨0,0,jb,jb,?_⟩
    simp(disch:=try exact jz) only[go_sem,z3,t5,t13,t14,t16,je,t19,t55,t56,am]
    exact⟨rfl,PS.zero,fr,jp⟩
   .rintro _ tm σ5 ⟨j,s,rfl,hj,t5,t13,t14,t16,je,t19,t20,t55,t56,t21,t61,t62,t63,ps,hS,hf5,hl5⟩
    have DK:=Fr.refl hf5.wf
    have aky:=akx.trans hf5
    simp(disch:=try exact jz) only[go_sem,z3,t5,t13,t14,t16,je,t19,t20,t55,t56,t21,t61,t62,t63,aG]
    refine aH (λvU=>?_) (λvU=>?_)
    .obtain⟨eb',o,c,e,C,A,akz,-,hC,-⟩:=(hE.fr hF1.wf aky).at (i:=j) (by rw[hEl];exact vU)
     injection e with e1 e2 e3 e4
     subst e1 e2 e4
     rw[show ix (iZ n m cl al) j=⟨uF (m j),cl j,al j⟩from hix j vU]at akz hC
     have akz:ld σ5.h eb (0+j*5) 5 true=some (.agg [.bool (rn (m j)),.str (rs (m j)),.str (rd (m j)),C,A]):=akz
     rw[cK]at akz
     have hCl:=aW.len hC
     have P9:=aW.kn hC
     unfold dQ at ps
     have zs:=hS.sz jb
     have zm:Sz (m j):=akw (hmc j vU).1 (hmc j vU).2.1 (by have:=(hmc j vU).2.2;grind)
     simp(disch:=try exact jz) only[go_sem,z3,t5,t13,t14,t16,je,t19,t20,t55,t56,t21,t61,t62,t63,akz,hCl,P9,ak ps,ps]
     refine bF.mono (Q:=λe tm σ'=>e=.exit 4/\∃s,Tr.ah tm 5=.c (.int .u8 (.ofNat sv))/\Tr.ah tm 13=.c (.ptr σ1.aj 0)/\Tr.ah tm 14=.c (.ptr σ2.aj 0)/\Tr.ah tm 16=.c (.ptr σ3.aj 0)/\Tr.ah tm 18=.c (aS i hb)/\Tr.ah tm 19=.c (aS i lb)/\Tr.ah tm 20=.c (.int .i64 (.ofNat i))/\Tr.ah tm 55=.c (.int .i64 (.ofNat n))/\Tr.ah tm 56=.c (.int .i64 (.ofNat i))/\Tr.ah tm 21=.c (.ptr σ4.aj 0)/\Tr.ah tm 61=.c (.sl eb 0 n .opn)/\Tr.ah tm 62=.c (.int .i64 (.ofNat n))/\Tr.ah tm 63=.c (.int .i64 (.ofNat j))/\σ'.h σ4.aj=some ⟨dQ s,none⟩/\PI (wz n m cl al dl) j (cl j).length s/\Fr σ4 σ'/\σ4.aj+1<=σ'.aj)
      (aF (λq tm σ'=>∃k s,q=(cl j).length-k/\k<=(cl j).length/\Tr.ah tm 5=.c (.int .u8 (.ofNat sv))/\Tr.ah tm 13=.c (.ptr σ1.aj 0)/\Tr.ah tm 14=.c (.ptr σ2.aj 0)/\Tr.ah tm 16=.c (.ptr σ3.aj 0)/\Tr.ah tm 18=.c (aS i hb)/\Tr.ah tm 19=.c (aS i lb)/\Tr.ah tm 20=.c (.int .i64 (.ofNat i))/\Tr.ah tm 55=.c (.int .i64 (.ofNat n))/\Tr.ah tm 56=.c (.int .i64 (.ofNat i))/\Tr.ah tm 21=.c (.ptr σ4.aj 0)/\Tr.ah tm 61=.c (.sl eb 0 n .opn)/\Tr.ah tm 62=.c (.int .i64 (.ofNat n))/\Tr.ah tm 63=.c (.int .i64 (.ofNat j))/\Tr.ah tm 72=.c C/\Tr.ah tm 73=.c (.int .i64 (.ofNat (cl j).length))/\Tr.ah tm 74=.c (.int .i64 (.ofNat k))/\σ'.h σ4.aj=some ⟨dQ s,none⟩/\PI (wz n m cl al dl) j k s/\Fr σ4 σ'/\σ4.aj+1<=σ'.aj) (cl j).length ?_ ?_) ?_
     .refine⟨0,s+m j,jb,jb,?_⟩
      simp(disch:=try exact jz) only[go_sem,z3,t5,t13,t14,t16,je,t19,t20,t55,t56,t21,t61,t62,t63,am]
      refine⟨rfl,?_,fr,jb⟩
      have:=hS.ayx (by rw[hcs j vU];exact hmc j vU)
      rw[hcs j vU]at this
      exact this
     .rintro _ tm σ6 ⟨k,s,rfl,hk,t5,t13,t14,t16,je,t19,t20,t55,t56,t21,t61,t62,t63,t72,t73,t74,ps,hP,fU,hl6⟩
      have asA:=Fr.refl fU.wf
      simp(disch:=try exact jz) only[go_sem,z3,t5,t13,t14,t16,je,t19,t20,t55,t56,t21,t61,t62,t63,t72,t73,t74,aG]
      refine aH (λhltk=>?_) (λhltk=>?_)
      .have hC6:aW (Lt σ1.aj) σ6.h 5 C (cl j).length λi=>YU (ix (cl j) i):=aW.keep hC (λb hb=>(fU.old b (by have:b<σ1.aj:=hb;omega)).trans (hf5.old b (by have:b<σ1.aj:=hb;omega)).symm) λ_ h=>h
       obtain⟨b,o,c,rfl,hbl,hld⟩:=aW.pos hC6 jb
       have hld:=hld k hltk
       have hbl:b<σ1.aj:=hbl
       obtain⟨q,hq⟩:=hcl j vU k hltk
       have hqc:nX 60 60 (ix (ix (wz n m cl al dl).e j).c k).a.q:=hG.cap j jb k
       have hq':(ix (ix (wz n m cl al dl).e j).c k).a.q=q:=by rw[hix j vU];show(ix (cl j) k).a.q=q;rw[hq,Fb]
       have hP':=hP.claim hqc
       rw[hq']at hqc hP'
       rw[show YU (ix (cl j) k)=[.int .i64 (ix (cl j) k).h,.int .i64 (ix (cl j) k).r,.bool (rn q),.str (rs q),.str (rd q)] by unfold YU;rw[hq];rfl]at hld
       have zs:=hP.sz jb (by have:=hk6 j vU;omega)
       have zq:Sz q:=akw hqc.1 hqc.2.1 (by have:=hqc.2.2;grind)
       have zqq:Sz (q+q):=akw (hqc.1.add hqc.1) (by have:=hqc.2.1;grind) (by have:=hqc.2.2;grind)
       have azN:=hk6 j vU
       unfold dQ at ps
       simp(disch:=try exact jz) only[go_sem,z3,t5,t13,t14,t16,je,t19,t20,t55,t56,t21,t61,t62,t63,t72,t73,t74,hld,ak ps,ps]
       exact⟨(cl j).length-(k+1),jb,k+1,_,rfl,jb,rfl,rfl,hP',fr,jb⟩
      .have:k=(cl j).length:=jb
       subst this
       simp(disch:=try exact jz) only[go_sem,z3,am]
       exact⟨s,t5,t13,t14,t16,je,t19,t20,t55,t56,t21,t61,t62,t63,ps,hP,fU,hl6⟩
     .rintro _ tm σ6 ⟨rfl,s,t5,t13,t14,t16,je,t19,t20,t55,t56,t21,t61,t62,t63,ps,hP,fU,hl6⟩
      simp(disch:=try exact jz) only[go_sem,z3,t5,t13,t14,t16,je,t19,t20,t55,t56,t21,t61,t62,t63]
      rw[<-hkE j vU]at hP
      exact⟨n-(j+1),jb,j+1,s,rfl,jb,rfl,ps,hP.next (by rw[hkE j vU];exact hk6 j vU),fU,hl6⟩
    .have:j=n:=jb
     subst this
     simp(disch:=try exact jz) only[go_sem,z3,am]
     exact⟨s,t5,t13,t14,t16,je,t19,t20,t55,t56,t21,ps,hS,hf5,hl5⟩
   .rintro _ tm σ5 ⟨rfl,s,t5,t13,t14,t16,je,t19,t20,t55,t56,t21,ps,hS,hf5,hl5⟩
    have hgH:=nH.g
    have hgL:=nL.g
    have aky:=akx.trans hf5
    have p35:=hf5.get hf4.wf p3
    have q25:=hf5.get hf4.wf (hf4.get hf3.wf q12)
    unfold dQ at ps
    have DK:=Fr.refl hf5.wf
    have hLH:LG (λj=>dQ (hi j)) 3:=λ_=>rfl
    have hLL:LG (λ_:Nat=>dQ 0) 3:=λ_=>rfl
    have hh1:=nH.l1
    have hh2:i=0\/hb<σ5.aj:=by have:=nH.l2;omega
    have hh3:=nL.l1
    have hh4:i=0\/lb<σ5.aj:=by have:=nL.l2;omega
    have ayz:uJ i σ5.h hb=gF i (λj=>dQ (hi j)) 3 42:=by rw[<-hgH];exact pz (by rcases nH.l2 with h|h;exact .inl h;exact .inr (hf5.old _ h))
    have ayA:uJ i σ5.h lb=gF i (λ_=>dQ 0) 3 42:=by rw[<-hgL];exact pz (by rcases nL.l2 with h|h;exact .inl h;exact .inr (hf5.old _ h))
    have hdn:decide (n<i)=false:=az jb
    simp(disch:=try exact jz) only[go_sem,z3,t5,t13,t14,t16,je,t19,t20,t55,t56,t21,ak ps,ayz,ayA,ak q25,q25,k1,hlx,hdn]
    have hz5:=hf4.le
    refine⟨n-(i+1),jb,i+1,σ5.aj+1,σ5.aj+1+1+1,aN hi i s,rfl,jb,rfl,rfl,rfl,?_,?_,.inr jb,λj hj=>?_,?_⟩
    .exact NF.app (adp σ5.h _ _ _ _ hh2 hh4).1 jb jb
    .have:=NF.app (n':=σ5.aj+1+1+1+1) (lo:=σ3.aj+1) (adp σ5.h (hb:=hb) (lb:=lb) ⟨[.bool (rn s),.str (rs s),.str (rd s)],none⟩ ⟨[.bool (rn 0),.str (rs 0),.str (rd 0)],none⟩ ⟨bH i (λj=>dQ (hi j))++dQ s,some (3,42)⟩ ⟨bH i (λj=>dQ ((λ_=>0) j))++dQ 0,some (3,42)⟩ hh2 hh4).2.1 jb jb
     rw[afI]at this
     exact this
    .by_cases e:j=i
     .rw[e,aO];exact PS.hi hG (by rw[hn];exact hS)
     .rw[aQ _ _ _ _ e];exact hH j jb
    .have azO:=hf4.trans hf5
     exact⟨p35,fr,jb⟩
  .have:i=n:=jb
   subst this
   simp(disch:=try exact jz) only[go_sem,z3,am]
   exact⟨hb,lb,hi,t5,t13,t14,t16,je,t19,nH,nL,hH,p3,hf4,hl4⟩
 .rintro _ tm σ4 ⟨rfl,hb,lb,hi,t5,t13,t14,t16,je,t19,nH,nL,hH,p3,hf4,hl4⟩
  have akx:=an8.trans hf4
  have U4:=hf4.get hf3.wf q3
  have q24:=hf4.get hf3.wf q12
  have rH:iD (λ_=>True) σ4.h (aS n hb) n hi:=nH.hlp jj (λ_ _=>rfl) λ_ _ _=>trivial
  have rL:iD (λ_=>True) σ4.h (aS n lb) n λ_=>0:=nL.hlp jj (λ_ _=>rfl) λ_ _ _=>trivial
  have hv4:iD (Lt σ2.aj) σ4.h cm n x:=aW.fr hf2.wf (hFa.trans (hf3.trans hf4)) v1
  have hw4:iD (Lt σ3.aj) σ4.h cm' n y:=aW.fr hf3.wf hf4 w1
  obtain⟨zx,-,-⟩:=hPx.sz jj aR
  obtain⟨zy,-,-⟩:=hPy.sz jj aR
  rw[hn]at zx zy
  have hk5:sv%6<=5:=jb
  have hH0:ItZ (wz n m cl al dl) 0 hi:=⟨60,6,jj,jj,jj,jb,λj hj=>(hH j jb).1⟩
  have hL0:ItZ (wz n m cl al dl) 0 (λ_=>0):=⟨60,6,jj,jj,jj,jb,λj hj=>⟨dR.zero _,aR,(show(0:Rat)<=100000 by decide)⟩⟩
  have hfx:∀i,i<n->wL (wz n m cl al dl) x i=x i:=λi hi=>(hgt.fix i jb).symm
  have hfy:∀i,i<n->wL (wz n m cl al dl) y i=y i:=λi hi=>(hls.fix i jb).symm
  simp(disch:=try exact jz) only[go_sem,z3,t5,t13,t14,t16,je,t19]
  refine bF.mono (Q:=λe tm σ'=>e=.exit 6/\∃(k:Nat) (hv lv:B) (hx lx:Nat->Rat),k<=5/\Tr.ah tm 14=.c (.ptr σ2.aj 0)/\Tr.ah tm 16=.c (.ptr σ3.aj 0)/\Tr.ah tm 18=.c hv/\Tr.ah tm 19=.c lv/\iD (λ_=>True) σ'.h hv n hx/\iD (λ_=>True) σ'.h lv n lx
    /\ItZ (wz n m cl al dl) k hx/\ItZ (wz n m cl al dl) k lx/\(∀i,i<n->x i<=hx i)/\(∀i,i<n->lx i<=y i)/\Fr σ4 σ')
   (aF (λq tm σ'=>∃(k:Nat) (hv lv:B) (hx lx:Nat->Rat),q=sv%6-k/\k<=sv%6/\Tr.ah tm 5=.c (.int .u8 (.ofNat sv))/\Tr.ah tm 13=.c (.ptr σ1.aj 0)/\Tr.ah tm 14=.c (.ptr σ2.aj 0)/\Tr.ah tm 16=.c (.ptr σ3.aj 0)/\Tr.ah tm 18=.c hv/\Tr.ah tm 19=.c lv/\Tr.ah tm 26=.c (.int .i64 (.ofNat k))/\iD (λ_=>True) σ'.h hv n hx/\iD (λ_=>True) σ'.h lv n lx
    /\ItZ (wz n m cl al dl) k hx/\ItZ (wz n m cl al dl) k lx/\(∀i,i<n->x i<=hx i)/\(∀i,i<n->lx i<=y i)/\(∀i,i<n->wL (wz n m cl al dl) hx i<=hx i)/\(∀i,i<n->lx i<=wL (wz n m cl al dl) lx i)/\Fr σ4 σ') (sv%6) ?_ ?_) ?_
  .refine⟨0,aS n hb,aS n lb,hi,λ_=>0,jb,jb,?_⟩
   simp(disch:=try exact jz) only[go_sem,z3,t5,t13,t14,t16,je,t19,am]
   exact⟨rH,rL,hH0,hL0,λi hi'=>by rw[<-hfx i hi'];exact(hH i hi').2 x (by rw[hn];intro j hj;exact hgt.nn j jb) i jb,λi hi'=>hls.nn i jb,λi hi'=>(hH i hi').2 _ hH0.nn i jb,λi hi'=>ado hG hL0.nn jb,Fr.refl hf4.wf⟩
  .rintro _ tm σ5 ⟨k,hv,lv,hx,lx,rfl,hk,t5,t13,t14,t16,je,t19,t26,r1,r2,z1,z2,o1,o2,o3,o4,hf5⟩
   simp(disch:=try exact jz) only[go_sem,z3,t5,t13,t14,t16,je,t19,t26,aG]
   refine aH (λhlt=>?_) (λhlt=>?_)
   .have aky:=akx.trans hf5
    have q15:=hf5.get hf4.wf U4
    have q25:=hf5.get hf4.wf q24
    have p35:=hf5.get hf4.wf p3
    obtain⟨⟨D1,M1⟩,Z1⟩:=z1.step hG jb
    obtain⟨⟨D2,M2⟩,Z2⟩:=z2.step hG jb
    have s1:∀i,i<n->Sz (hx i):=λi hi=>z1.sz jb i jb
    have s2:∀i,i<n->Sz (lx i):=λi hi=>z2.sz jb i jb
    have S1:∀i,i<n->Sz (wL (wz n m cl al dl) hx i):=λi hi=>Z1.sz jb i jb
    have S2:∀i,i<n->Sz (wL (wz n m cl al dl) lx i):=λi hi=>Z2.sz jb i jb
    have x1:∀i,i<n->x i<=wL (wz n m cl al dl) hx i:=λi hi=>by rw[<-hfx i hi];exact EJ hG hgt.nn (λj hj=>o1 j jb) i
    have x2:∀i,i<n->wL (wz n m cl al dl) lx i<=y i:=λi hi=>by rw[<-hfy i hi];exact EJ hG z2.nn (λj hj=>o2 j jb) i
    have x3:∀i,i<n->wL (wz n m cl al dl) (wL (wz n m cl al dl) hx) i<=wL (wz n m cl al dl) hx i:=λi _=>EJ hG Z1.nn (λj hj=>o3 j jb) i
    have x4:∀i,i<n->wL (wz n m cl al dl) lx i<=wL (wz n m cl al dl) (wL (wz n m cl al dl) lx) i:=λi _=>EJ hG z2.nn (λj hj=>o4 j jb) i
    have hvk:=aW.kn r1;have lvk:=aW.kn r2
    simp(disch:=try exact jz) only[go_sem,z3,t5,t13,t14,t16,je,t19,t26,ak q15,q15,hek,hdk,hvk,lvk]
    refine(akp hf5.wf (hg1.fr hF1.wf aky) r1 M1).mono ?_
    rintro _ σ6 ⟨⟨av,rfl,ha6⟩,fU⟩
    have q16:=fU.get hf5.wf q15
    have hak:=aW.kn ha6
    simp(disch:=try exact jz) only[go_sem,z3,t5,t13,t14,t16,je,t19,t26,ak q16,q16,hek,hdk,hvk,lvk,hak]
    refine(akp fU.wf (hg1.fr hF1.wf (aky.trans fU)) (aW.fr hf5.wf fU r2) M2).mono ?_
    rintro _ σ7 ⟨⟨bv,rfl,hb7⟩,lS⟩
    have hbk:=aW.kn hb7
    have abe:=fU.trans lS
    have r17:=aW.fr hf5.wf abe r1
    have r27:=aW.fr hf5.wf abe r2
    have ha7:=aW.fr fU.wf lS ha6
    have q27:=abe.get hf5.wf q25
    have p37:=abe.get hf5.wf p35
    have hv7:=aW.fr hf4.wf (hf5.trans abe) hv4
    have hw7:=aW.fr hf4.wf (hf5.trans abe) hw4
    simp(disch:=try exact jz) only[go_sem,z3,t5,t13,t14,t16,je,t19,t26,hvk,lvk,hak,hbk]
    refine(EI lS.wf ha7 r17 jb S1 s1).mono ?_
    rintro _ σ8 ⟨rfl,pG⟩
    rw[bh o3]
    simp(disch:=try exact jz) only[go_sem,z3,t5,t13,t14,t16,je,t19,t26,hvk,lvk,hak,hbk]
    refine(EI pG.wf (aW.fr lS.wf pG r27) (aW.fr lS.wf pG hb7) jb s2 S2).mono ?_
    rintro _ σ9 ⟨rfl,XL⟩
    rw[bh o4]
    have aoh:=pG.trans XL
    have q29:=aoh.get lS.wf q27
    simp(disch:=try exact jz) only[go_sem,z3,t5,t13,t14,t16,je,t19,t26,hvk,lvk,hak,hbk,ak q29,q29,k1]
    refine(EI XL.wf (aW.fr lS.wf aoh hv7) (aW.fr lS.wf aoh ha7) jb zx S1).mono ?_
    rintro _ σ10 ⟨rfl,XM⟩
    rw[bh x1]
    have adq:=aoh.trans XM
    have awW:=adq.get lS.wf p37
    simp(disch:=try exact jz) only[go_sem,z3,t5,t13,t14,t16,je,t19,t26,hvk,lvk,hak,hbk,ak awW,awW,j1]
    refine(EI XM.wf (aW.fr lS.wf adq hb7) (aW.fr lS.wf adq hw7) jb S2 zy).mono ?_
    rintro _ σ11 ⟨rfl,ayB⟩
    rw[bh x2]
    have akA:=adq.trans ayB
    simp(disch:=try exact jz) only[go_sem,z3,t5,t13,t14,t16,je,t19,t26,hvk,lvk,hak,hbk]
    exact⟨sv%6-(k+1),jb,k+1,av,bv,_,_,rfl,jb,rfl,rfl,rfl,aW.keep (aW.fr lS.wf akA ha7) (λ_ _=>rfl) (λ_ _=>trivial),aW.keep (aW.fr lS.wf akA hb7) (λ_ _=>rfl) (λ_ _=>trivial),Z1,Z2,x1,x2,x3,x4,hf5.trans (abe.trans akA)⟩
   .simp(disch:=try exact jz) only[go_sem,z3,am]
    exact⟨k,hv,lv,hx,lx,jb,t14,t16,je,t19,r1,r2,z1,z2,o1,o2,hf5⟩
  .rintro _ tm σ5 ⟨rfl,k,hv,lv,hx,lx,hk,t14,t16,je,t19,r1,r2,z1,z2,o1,o2,hf5⟩
   have s1:∀i,i<n->Sz (hx i):=λi hi=>z1.sz jb i jb
   have s2:∀i,i<n->Sz (lx i):=λi hi=>z2.sz jb i jb
   have hvk:=aW.kn r1;have lvk:=aW.kn r2
   simp(disch:=try exact jz) only[go_sem,z3,t14,t16,je,t19]
   refine(an9 hf5.wf).mono ?_
   rintro _ σ6 ⟨rfl,fU⟩
   have aoi:=hf5.trans fU
   have q26:=aoi.get hf4.wf q24
   have p36:=aoi.get hf4.wf p3
   simp(disch:=try exact jz) only[go_sem,z3,t14,t16,je,t19,ak q26,q26,k1,hvk]
   refine(EI fU.wf (aW.fr hf4.wf aoi hv4) (aW.fr hf5.wf fU r1) jb zx s1).mono ?_
   rintro _ σ7 ⟨rfl,lS⟩
   rw[bh o1]
   have p37:=lS.get fU.wf p36
   simp(disch:=try exact jz) only[go_sem,z3,t14,t16,je,t19,ak p37,p37,j1,lvk]
   refine(EI lS.wf (aW.fr hf5.wf (fU.trans lS) r2) (aW.fr hf4.wf (aoi.trans lS) hw4) jb s2 zy).mono ?_
   rintro _ σ8 ⟨rfl,pG⟩
   rw[bh o2]
   simp(disch:=try exact jz) only[go_sem,z3]
def VG{W:World}{nm sv:Nat}{v2 v3 v4 v5:Value}(hnm:nm<=255)(hsv:sv<=255){n2 n3 n4 n5:Nat}{M:Nat->Nat}{L P D:Nat->Nat->Nat}(h2:HL (St.of W).h 1 (yY W.heap.size v2) n2 λi=>[.int .u16 (.ofNat (M i))])(hM:∀i,i<n2->M i<=65535)
  (h3:HL (St.of W).h 4 (yY W.heap.size v3) n3 λi=>[.int .u16 (.ofNat (L i 0)),.int .u16 (.ofNat (L i 1)),.int .u16 (.ofNat (L i 2)),.int .u16 (.ofNat (L i 3))]) (hL:∀i j,i<n3->L i j<=65535) (hn3:n3<=140737488351232)
  (h4:HL (St.of W).h 3 (yY W.heap.size v4) n4 λi=>[.int .u16 (.ofNat (P i 0)),.int .u16 (.ofNat (P i 1)),.int .u16 (.ofNat (P i 2))]) (hP:∀i j,i<n4->P i j<=65535) (hn4:n4<=140737488351232)
  (h5:HL (St.of W).h 3 (yY W.heap.size v5) n5 λi=>[.int .u16 (.ofNat (D i 0)),.int .u16 (.ofNat (D i 1)),.int .u16 (.ofNat (D i 2))]) (hD:∀i j,i<n5->D i j<=65535) (hn5:n5<=140737488351232):
  Calls Tryz.prog 5 #[.int .u8 (nm:Int),v2,v3,v4,v5,.int .u8 (sv:Int)] W λe w'=>e=.returned (.bool true)/\Below W.heap.size W w':=
 arG (Pz (WF.of W) hnm M L P D h2 hM h3 hL jb h4 hP jb h5 hD jb hsv) ⟨rfl,H7 _ _ h2.kn,H7 _ _ h3.kn,H7 _ _ h4.kn,H7 _ _ h5.kn,rfl,trivial⟩
end Go.Proofs.Xe
