import Derived.Test.YtodnohicahohdaaGreatDoorYh7
set_option linter.all false
namespace Go.Proofs.Xe
open Go.RowKit Go.Proofs.Ins
section
variable {P:Program} {N:Nat} {w0 w w' : World} {φ φ' : Ph} {J J' : St} {tm tm' : Tr V} {a:Act} {v:V}
def RB.mono(h:∀b p,φ b=some p->φ' b=some p){x:B}{u:Value}(hv:RB φ x u):RB φ' x u:=by
 cases x<;>simp only[RB]at hv⊢ <;>try exact hv
 case ptr b o=>grind
 case sl b o n c=>
  rcases hv with⟨p,K,hp,e,r⟩|hv
  .grind
  grind
 grind
def lX.mono(h:∀b p,φ b=some p->φ' b=some p):∀{l:List B}{r:List Value},lX φ l r->lX φ' l r
 |[],[],_=>trivial
 |_::_,_::_,hv=>⟨hv.1.mono h,lX.mono h hv.2⟩
 |[],_::_,hv=>hv.elim
 |_::_,[],hv=>hv.elim
def RV.mono(h:∀b p,φ b=some p->φ' b=some p):∀{x:V}{u:Value},RV φ x u->RV φ' x u
 |.c _,_,hv=>RB.mono h hv
 |.agg _,_,⟨r,e,hr⟩=>⟨r,e,hr.mono h⟩
 |.fn _ _,_,⟨r,e,hr⟩=>⟨r,e,hr.mono h⟩
 |.Pq,_,hv=>hv
 |.tnil,_,hv=>hv
 |.aU _ _,_,⟨x,xs,e,h1,h2⟩=>⟨x,xs,e,h1.mono h,h2.mono h⟩
 |.und,_,_=>trivial
def RT.mono(h:∀b p,φ b=some p->φ' b=some p)(ht:RT φ tm a):RT φ' tm a:=λt u hu=>(ht t u hu).mono h
def Bj(listed:Array Bool)(i:Nat):Prop:=listed.getD i false=true
theorem lQ{listed:Array Bool}{i:Nat}(hi:i<listed.size)(j:Nat):Bj (listed.setIfInBounds i true) j↔j=i\/Bj listed j:=by unfold Bj;simp only[fS,Array.getElem?_setIfInBounds];grind
theorem P6{listed:Array Bool}{i:Nat}(h:listed.getD i true=false):¬Bj listed i:=by grind[Go.Proofs.Xe.Bj]
def agm{listed:Array Bool}{i:Nat}(hi:i<listed.size)(h:¬Bj listed i):listed.getD i true=false:=by grind[Bj]
def aec{p q:Nat->Bool}(h:∀x,q x=true->p x=true):∀l:List Nat,(l.filter q).length<=(l.filter p).length
 |[]=>jp
 |x::l=>by have ih:=aec h l;grind
def aed{p q:Nat->Bool}(h:∀x,q x=true->p x=true){i:Nat}(hp:p i=true)(hq:¬q i=true):∀l:List Nat,i∈l->(l.filter q).length<(l.filter p).length
 |[],hi=>by cases hi
 |x::l,hi=>by
  rw[List.filter_cons,List.filter_cons];rcases bw.mp hi with rfl|hi
  .rw[ae hq,ab hp];have:=aec h l;grind
  .have ih:=aed h hp hq l hi;grind
def cnt(n:Nat)(listed:Array Bool):Nat:=((List.range n).filter λj=>!listed.getD j false).length
def aow{n i:Nat}{listed:Array Bool}(hs:listed.size=n)(hi:i<n)(hl:¬Bj listed i):cnt n (listed.setIfInBounds i true)<cnt n listed:=by
 unfold cnt;refine aed (λx hx=>?_) (i:=i) ?_ ?_ _ (fi.mpr hi)
 .have h1:¬Bj (listed.setIfInBounds i true) x:=by grind[Bj]
  grind[lQ,Bj]
 .grind[Bj]
 simp_all
def ajn{n:Nat}{listed:Array Bool}(h:cnt n listed=0):∀i,i<n->Bj listed i:=λi hi=>by
 refine bh λhl=>?_;have:i∈(List.range n).filter λj=>!listed.getD j false:=by grind[Bj]
 rw[eo h]at this;cases this
def vC:∀{l r:List DO},sU (l++r)=true->sU l=true/\sU r=true/\∀x∈l,∀y∈r,x.i≠y.i
 |[],r,h=>⟨rfl,h,λx hx=>by cases hx⟩
 |z::l,r,h=>by
  rw[fh]at h;unfold sU at h;rw[af,eA]at h;obtain⟨h1,h2⟩:=h;obtain⟨q1,q2,q3⟩:=vC h2;refine⟨?_,q2,λx hx y hy=>?_⟩
  .unfold sU;rw[af,eA];exact⟨λy hy=>h1 y (by simp[hy]),q1⟩
  .rcases bw.mp hx with rfl|hx
   .have:=h1 y (by simp[hy]);rw[af]at this;intro e;rw[e]at this;simp at this
   .exact q3 x hx y hy
def Us{dw bU:Tr V}:∀(qs:List DO) (J:St) (res:List Rs) (pd:List jf) (J':St) (res':List Rs) (pd':List jf),zV dw bU qs J res pd=some (J',res',pd')->sU qs=true->
  (∀r∈res,∀y∈qs,r.i≠y.i)->(∀r∈res,∀r'∈res,r.i=r'.i->r=r')->∀r∈res',∀r'∈res',r.i=r'.i->r=r'
 |[],J,res,pd,J',res',pd',h,_,_,hu=>by grind[zV]
 |x::qs,J,res,pd,J',res',pd',h,ha,hr,hu=>by
  obtain⟨-,a2,a3⟩:=vC (l:=[x]) (r:=qs) ha;have step:∀(v:V) (σ1:St) (pd1:List jf),zV dw bU qs σ1 (⟨x.i,x.o.dst,v⟩::res) pd1=some (J',res',pd')->∀r∈res',∀r'∈res',r.i=r'.i->r=r':=λv σ1 pd1 h1=>
   Us qs σ1 _ pd1 J' res' pd' h1 a2 (λr hr' y hy=>by
    grind) (λr h2 r' h3 e=>by
    grind)
  unfold zV at h;split at h
  .grind
  .cases h
structure Ew(N:Nat)(w0:World)(P:Program)(K:Nat)(ops:Array Oper)(pt:List (List Nat))(all:List DO)(m:Nat)(φ0:Ph)(dw bU:Tr V)(a0:Act)(rest:List DO)(J:St)(res:List Rs)(pd:List jf)(φ:Ph)
  (listed:Array Bool) (a:Act) (w:World):Prop where
 rel:Rel N w0 φ J w
 lg:Lg φ (Bj listed) dw bU all res a
 pok:∀p∈pd,Wp P K ops pt all dw bU res p
 nam:Names φ (Bj listed) J pd
 low:∀p∈pd,∀b,p.nm=some b->m<=b
 ext:Ext m φ0 φ
 mle:m<=J.aj
 clo:∀i,Bj listed i->∀p,(pt.getD i []).contains p=true->Bj listed p
 cov:∀i,i<ops.size->Bj listed i\/(∃p∈pd,p.i=i)\/∃y∈rest,y.i=i
 unl:∀y∈rest,¬Bj listed y.i
 lsz:listed.size=ops.size
 ksz:K<=a.tmps.size
 dfr:a.defers=a0.defers
 rin:∀r∈res,∃y∈all,y.i=r.i/\y.o.dst=r.d
 run:∀r∈res,∀r'∈res,r.i=r'.i->r=r'
 rre:∀r∈res,∀y∈rest,r.i≠y.i
structure DSt(P:Program)(K:Nat)(ops:Array Oper)(pt:List (List Nat))(ds:List Nat)(all:List DO)(bU:Tr V):Prop where
 osk:∀x∈all,∀t∈x.os,∀y∈all,y.o.dst=some t->(pt.getD y.i []).contains x.i=true
 dok:∀x∈all,agl P K ops pt ds x=true
 apd:sU all=true
 pto:∀i,i<ops.size->aov ops pt i=true
 ers:∀d∈ds,bU.get d=none
variable {K:Nat} {ops:Array Oper} {pt:List (List Nat)} {ds:List Nat} {all rest:List DO} {m:Nat} {φ0:Ph} {dw bU:Tr V} {a0:Act} {res res' : List Rs} {pd pd' : List jf} {listed:Array Bool}
def F8{x:DO}(h:agl P K ops pt ds x=true):∃o,ops[x.i]?=some o/\PW P K ops o x.o=true/\(∀u∈x.us,(pt.getD x.i []).contains u=true)/\(∀d,x.o.dst=some d->d∈ds)/\o.dst=x.o.dst/\∀d,o.dst=some d->d<K:=by grind[agl,PW,Ij]
def DSt.pre(S:DSt P K ops pt ds all bU)(aDq:∀i,Bj listed i->∀p,(pt.getD i []).contains p=true->Bj listed p){i:Nat}(hi:i∈Region.ready .any ops listed):
  ∀p,(pt.getD i []).contains p=true->Bj listed p:=by
 obtain⟨-,o,ho,hall⟩:=mem_ready.1 hi
 have hlt:i<ops.size:=by
  rcases dE i ops.size with h|h
  .exact h
  .rw[Array.getElem?_eq_none h]at ho;cases ho
 have hp:=S.pto i hlt
 unfold aov at hp
 rw[ho]at hp
 grind[Bj,Nat.eq_of_beq_eq_true]
def DSt.P7(S:DSt P K ops pt ds all bU)(hsz:listed.size=ops.size)(hr:Region.ready .any ops listed=[]):∀n i,i<n->i<ops.size->Bj listed i
 |0,i,h,_=>jb
 |n+1,i,h,hi=>by
  refine bh λhl=>?_;have hp:=S.pto i hi;unfold aov at hp;rw[Array.getElem?_eq_getElem hi]at hp;simp only[af,eA]at hp;have:i∈Region.ready .any ops listed:=mem_ready.2 ⟨agm jb hl,_,Array.getElem?_eq_getElem hi,λe he hb=>by
   have h2:=hp.2 e kd;rw[hb]at h2;have h3:e.on<i:=by simp_all
   exact S.P7 hsz hr n e.on jb jb⟩
  grind
theorem Lg.put(S:DSt P K ops pt ds all bU)(hl:Lg φ (Bj listed) dw bU all res a){i:Nat}{d:Option Nat}{cv:Value}(hls:i<listed.size)(hin:∀r∈res,∃y∈all,y.i=r.i/\y.o.dst=r.d)
  (huq:∀r∈res,∀r'∈res,r.i=r'.i->r=r') (hr:(⟨i,d,v⟩:Rs)∈res) (hd:∀e,d=some e->e<a.tmps.size/\e∈ds) (hv:RV φ v cv):Lg φ (Bj (listed.setIfInBounds i true)) dw bU all res (a.put d cv):=by
 refine⟨λt u hu=>?_,λr hrr hL e he=>?_,λt ho=>?_⟩
 .have h0:=hl.base t u hu
  cases d with
  |none=>exact h0
  |some d=>
   have hne:d≠t:=λe=>by have:=S.ers d (hd d rfl).2;grind
   simp_all[Act.put]
 .by_cases ei:r.i=i
  .have:=huq r hrr _ hr ei
   simp_all[Go.Act.put]
  .have hL2:Bj listed r.i:=((lQ hls r.i).mp hL).resolve_left ei
   obtain⟨h1,h2⟩:=hl.got r hrr hL2 e he
   refine⟨by grind[Jo],?_⟩
   cases d with
   |none=>exact h2
   |some d=>
    have hne:d≠e:=λe2=>by obtain⟨y,hy,y1,y2⟩:=hin r hrr;obtain⟨z,hz,z1,z2⟩:=hin _ hr;have:=PZ S.apd y hy z hz e kd kd;grind
    simp_all[Act.put]
 .have h0:=hl.old t λy hy e hL=>ho y hy e ((lQ hls y.i).mpr (.inr hL))
  cases d with
  |none=>exact h0
  |some d=>
   have hne:d≠t:=λe=>by grind[lQ]
   simp_all[Act.put]
def Lg.mono{L:Nat->Prop}(h:∀b p,φ b=some p->φ' b=some p)(hl:Lg φ L dw bU all res a):Lg φ' L dw bU all res a:=
 ⟨hl.base.mono h,λr hr hL d hd=>⟨(hl.got r hr hL d hd).1,(hl.got r hr hL d hd).2.mono h⟩,λt ho=>(hl.old t ho).mono h⟩
def Lg.sub{L:Nat->Prop}(hs:∀r∈res',r∈res)(hl:Lg φ L dw bU all res a):Lg φ L dw bU all res' a:=⟨hl.base,λr hr=>hl.got r (hs r hr),hl.old⟩
def Ew.done(S:DSt P K ops pt ds all bU)(h:Ew N w0 P K ops pt all m φ0 dw bU a0 rest J res pd φ listed a w){i:Nat}{d:Option Nat}{cv:Value}(hi:i<ops.size)(hr:(⟨i,d,v⟩:Rs)∈res)
  (hpre:∀p,(pt.getD i []).contains p=true->Bj listed p) (hd:∀e,d=some e->e<K/\e∈ds) (hmono:∀b p,φ b=some p->φ' b=some p) (hrel:Rel N w0 φ' J w') (hv:RV φ' v cv)
  (aox:Names φ' (Bj (listed.setIfInBounds i true)) J pd) (hext:Ext m φ0 φ'):Ew N w0 P K ops pt all m φ0 dw bU a0 rest J res pd φ' (listed.setIfInBounds i true) (a.put d cv) w':=by
 have hls:i<listed.size:=by rw[h.lsz];exact hi
 refine⟨hrel,(h.lg.mono hmono).put S hls h.rin h.run hr (λe he=>⟨by have:=(hd e he).1;have:=h.ksz;omega,(hd e he).2⟩) hv,h.pok,aox,h.low,hext,h.mle,λj hj p hp=>?_,λj hj=>?_,λy hy hl=>?_,by simp[h.lsz],by rw[Jo];exact h.ksz,by rw[put_defers];exact h.dfr,h.rin,h.run,h.rre⟩
 .rw[lQ hls]at hj⊢
  rcases hj with rfl|hj
  .grind
  .exact .inr (h.clo j hj p hp)
 .rcases h.cov j hj with h1|h1
  .grind[lQ]
  grind
 .rcases(lQ hls y.i).mp hl with e|e
  .exact h.rre _ hr y hy e.symm
  .exact h.unl y hy e
def Ew.quiet(S:DSt P K ops pt ds all bU){qs:List DO}(h:Ew N w0 P K ops pt all m φ0 dw bU a0 (qs++rest) J res pd φ listed a w)(hap:sU (qs++rest)=true)(hsub:∀y∈qs++rest,y∈all)
  (hrun:zV dw bU qs J res pd=some (J',res',pd')):Ew N w0 P K ops pt all m φ0 dw bU a0 rest J' res' pd' φ listed a w:=by
 obtain⟨a1,a2,a3⟩:=vC hap
 obtain⟨r1,r2,r3,r4,r5,r6,r7⟩:=Ur (ds:=ds) (m:=m) (φ:=φ) (L:=Bj listed) qs J res pd J' res' pd' hrun (λx hx=>S.dok x (hsub x (by simp[hx]))) (λx hx=>S.osk x (hsub x (by simp[hx]))) (λx hx=>h.unl x (by simp[hx])) h.rel h.pok h.nam h.mle h.low
 refine⟨r1,⟨h.lg.base,λr hr hL=>?_,h.lg.old⟩,r2,r3,r7,h.ext,by have:=h.mle;omega,h.clo,λi hi=>?_,λy hy=>h.unl y (by simp[hy]),h.lsz,h.ksz,h.dfr,λr hr=>?_,
  Us qs J res pd J' res' pd' hrun a1 (λr hr y hy=>h.rre r hr y (by simp[hy])) h.run,λr hr y hy=>?_⟩
 .rcases(r5 r).mp hr with hr'|⟨x,hx,u,rfl,-⟩
  .exact h.lg.got r hr' hL
  .exact absurd hL (h.unl x (by simp[hx]))
 .rcases h.cov i hi with h1|⟨p,hp,e⟩|⟨y,hy,e⟩
  .grind
  .exact .inr (.inl ((r6 i).mpr (.inl ⟨p,hp,e⟩)))
  .rcases bO.mp hy with hy|hy
   .exact .inr (.inl ((r6 i).mpr (.inr ⟨y,hy,e⟩)))
   grind
 .rcases(r5 r).mp hr with hr'|⟨x,hx,u,rfl,-⟩
  .exact h.rin r hr'
  grind
 .rcases(r5 r).mp hr with hr'|⟨x,hx,u,rfl,-⟩
  .exact h.rre r hr' y (by simp[hy])
  grind
def Stg(cl:Nat->List V->St->Option (V×St))(pt:List (List Nat))(dw bU tmF:Tr V)(σF:St)(all:List DO)(J:St)(res:List Rs)(pd:List jf):Dr->Prop
 |.fin _=>pd.all (again J)=true/\Nv bU res=some tmF/\J=σF
 |.act _ x r=>pd.all (again J)=true/\(∃tm v σ1,PE dw bU res x.us x.os=some tm/\stepG cl x.o tm J=some (v,σ1)/\
   Bz cl pt dw bU r σ1 (⟨x.i,x.o.dst,v⟩::res) (pd.filter λp=>!((pt.getD x.i []).contains p.i))=some (tmF,σF))/\Et x.o.op.kind=false/\(∀y∈r.KR,(pt.getD y.i []).contains x.i=true)/\Eu pt r=true/\
   sU (x::r.KR)=true/\∀y∈x::r.KR,y∈all
def Dr.tail:Dr->List DO
 |.fin _=>[]
 |.act _ x r=>x::r.KR
def MO(S:DSt P K ops pt ds all bU){cl:Nat->List V->St->Option (V×St)}{tmF:Tr V}{σF:St}{D:Dr}(hst:Eu pt D=true)(hap:sU D.KR=true)(hsub:∀y∈D.KR,y∈all)
  (h:Ew N w0 P K ops pt all m φ0 dw bU a0 D.KR J res pd φ listed a w) (hrun:Bz cl pt dw bU D J res pd=some (tmF,σF)):
  ∃J' res' pd',Stg cl pt dw bU tmF σF all J' res' pd' D/\Ew N w0 P K ops pt all m φ0 dw bU a0 D.tail J' res' pd' φ listed a w:=by
 cases D with
 |fin qs=>
  simp only[Bz]at hrun
  split at hrun
  .next J' res' pd' hq=>
   cases hb:pd'.all (again J')with
   |false=>grind
   |true=>
    rw[hb]at hrun
    simp only[bB]at hrun
    split at hrun
    .next tm hf=>
     cases hrun
     have hq2:=Ew.quiet (rest:=[]) S (by rw[dc];exact h) (by rw[dc];exact hap) (by rw[dc];exact hsub) hq
     exact⟨_,res',pd',⟨hb,hf,rfl⟩,hq2⟩
    grind
  grind
 |act qs x r=>
  simp only[Bz]at hrun
  split at hrun
  .next J' res' pd' hq=>
   cases hb:pd'.all (again J')with
   |false=>rw[hb]at hrun;cases hrun
   |true=>
    rw[hb]at hrun
    simp only[bB]at hrun
    split at hrun
    .next tm Nz=>
     split at hrun
     .next v σ1 hs=>
      have hq2:=Ew.quiet (rest:=x::r.KR) S h hap hsub hq
      simp only[Eu,af,eA,eC]at hst
      obtain⟨s1,s2,s3,s4⟩:=hst
      exact⟨J',res',pd',⟨hb,⟨tm,v,σ1,Nz,hs,hrun⟩,s2,s3,s4,(vC hap).2.1,λy hy=>hsub y (bO.mpr (.inr hy))⟩,hq2⟩
     .cases hrun
    .cases hrun
  .cases hrun
def Ew.pend[hPP:rJ P](S:DSt P K ops pt ds all bU)(h:Ew N w0 P K ops pt all m φ0 dw bU a0 rest J res pd φ listed a w)(hag:pd.all (again J)=true){p:jf}(hp:p∈pd){o:Oper}(ho:ops[p.i]?=some o)
  (hrd:p.i∈Region.ready .any ops listed){Q:Exit->Act->World->Prop}{nx:Act->World->Prop}
  (hn:∀a' w' φ',Ew N w0 P K ops pt all m φ0 dw bU a0 rest J res pd φ' (listed.setIfInBounds p.i true) a' w'->nx a' w'):wpOp P ops Q p.i nx a w:=by
 obtain⟨⟨o',us,os,h1,h2,h3,h6,res2,h4,h5⟩,hres,hgt,hno,hq,hk,hnn⟩:=h.pok p hp
 rw[ho]at h1
 cases h1
 have hlt:p.i<ops.size:=by grind
 have hpre:=S.pre h.clo hrd
 have hnl:¬Bj listed p.i:=P6 (mem_ready.1 hrd).1
 have hls:p.i<listed.size:=by rw[h.lsz];exact hlt
 have ht:RT φ p.tm a:=YX (h.lg.sub h4) (λu hu=>hpre u (h3 u hu)) (λt ht y hy e hL=>hnl (h.clo y.i hL p.i (h6 t ht y hy e))) h5
 have h2':=h2
 unfold PW at h2'
 simp only[af]at h2'
 obtain⟨g1,g2,g3⟩:=h2'
 obtain⟨d1,d2⟩:=Ij g2
 have hd:∀e,p.o.dst=some e->e<K/\e∈ds:=λe he=>by refine⟨d2 e kd,?_⟩;obtain⟨y,hy,y1,y2⟩:=h.rin _ hres;obtain⟨_,_,_,_,y5,_⟩:=F8 (S.dok y hy);grind
 have ab5:=(eA.mp hag) p hp
 have aox:Names φ (Bj (listed.setIfInBounds p.i true)) J pd:=⟨h.nam.lt,λq hq b hb hL=>h.nam.free q hq b hb (λhl=>hL ((lQ hls _).mpr (.inr hl))),h.nam.apart⟩
 have hw:=KP g1 ht hgt
 unfold wpOp
 simp only[ho]
 cases hg:p.gt with
 |false=>
  rw[hg]at hw
  rw[ae kd]
  have:=h.done (cv:=undef) S hlt hres hpre hd (λ_ _ h=>h) h.rel (by rw[hno hg];rfl) aox h.ext
  grind
 |true=>
  rw[hg]at hw
  rw[ab hw]
  refine .inl ?_
  unfold again at ab5
  rw[hg]at ab5
  simp only[bB]at ab5
  unfold Oper.wp
  cases hkk:p.o.op.kind with
  |q=>
   rw[hkk]at g3
   simp only at g3
   have hs:dA p.o.op p.tm J=some p.v:=by grind[abX]
   obtain⟨cv,e1,e2⟩:=PL h.rel g3 hs ht o rfl
   rw[e1]
   have:=h.done S hlt hres hpre hd (λ_ _ h=>h) h.rel e2 aox h.ext
   rw[<-d1]at this
   exact hn _ _ _ this
  |n=>
   rw[hkk]at g3
   simp only at g3
   obtain⟨l,vf,b,e1,e2,e3⟩:=hnn hkk hg
   rw[hkk,e1,e2]at ab5
   simp only at ab5
   split at ab5
   .next c hc=>
    have hcl:=Oa ab5
    subst hcl
    obtain⟨cs,T,cv,f1,f2,f3⟩:=PS (w:=w) g3 e1 ht o rfl
    rw[f1]
    have hb:=h.nam.lt p hp b e2
    have hfree:=h.nam.free p hp b e2 hnl
    obtain⟨q1,q2⟩:=h.rel.land (C:=0) (T:=T) hb hfree hc rfl f2
    have hmono:∀b' p',φ b'=some p'->Jm φ b (w.heap.size,0) b'=some p':=λb' p' hb'=>by rw[q2 b' (λe=>by rw[e,hfree]at hb';cases hb')];exact hb'
    have ayj:Names (Jm φ b (w.heap.size,0)) (Bj (listed.setIfInBounds p.i true)) J pd:=⟨h.nam.lt,λq hq b' hb' hL=>by have hne:b'≠b:=λe=>hL ((lQ hls _).mpr (.inl (h.nam.apart q hq p hp b (by rw[<-e];exact hb') e2)));rw[q2 b' hne];exact h.nam.free q hq b' hb' (λhl=>hL ((lQ hls _).mpr (.inr hl))),h.nam.apart⟩
    have hext:Ext m φ0 (Jm φ b (w.heap.size,0)):=λb' hb'=>by have:=h.low p hp b e2;rw[q2 b' jb];exact h.ext b' hb'
    have hv:RV (Jm φ b (w.heap.size,0)) p.v cv:=by rw[e3];exact f3 _ _ (iE _ _ _)
    have:=h.done S hlt hres hpre hd hmono q1 hv ayj hext
    rw[<-d1]at this
    exact hn _ _ _ this
   grind
  |a=>rw[hkk]at hk;cases hk
  |c=>rw[hkk]at hk;cases hk
def agp[hPP:rJ P](S:DSt P K ops pt ds all bU){cl:Nat->List V->St->Option (V×St)}(hcl:Wj P cl){tmF:Tr V}{σF:St}{Q:Exit->Act->World->Prop}
  (hQ:∀a' w' φ',a'.defers=a0.defers->K<=a'.tmps.size->Ext m φ0 φ'->Rel N w0 φ' σF w'->RT φ' tmF a'->m<=σF.aj->Q .normal a' w'):
  ∀(f:Nat) (D:Dr) (J:St) (res:List Rs) (pd:List jf) (φ:Ph) (listed:Array Bool) (a:Act) (w:World),cnt ops.size listed<=f->Stg cl pt dw bU tmF σF all J res pd D->
   Ew N w0 P K ops pt all m φ0 dw bU a0 D.tail J res pd φ listed a w->wpAny P .any ops Q f listed a w:=by
 have finish:∀(D:Dr) (J:St) (res:List Rs) (pd:List jf) (φ:Ph) (listed:Array Bool) (a:Act) (w:World),Stg cl pt dw bU tmF σF all J res pd D->
   Ew N w0 P K ops pt all m φ0 dw bU a0 D.tail J res pd φ listed a w->(∀i,i<ops.size->Bj listed i)->Q .normal a w:=by
  intro D J res pd φ listed a w hS h hall
  cases D with
  |fin qs=>
   obtain⟨-,h2,rfl⟩:=hS
   refine hQ a w φ h.dfr h.ksz h.ext h.rel (Uo h.lg (λr hr=>?_) h2) h.mle
   obtain⟨y,hy,y1,-⟩:=h.rin r hr
   obtain⟨o,ho,-⟩:=F8 (S.dok y hy)
   grind
  |act qs x r=>
   exfalso
   obtain⟨-,-,-,-,-,-,h7⟩:=hS
   obtain⟨o,ho,-⟩:=F8 (S.dok x (h7 x kc))
   refine h.unl x (by simp[Dr.tail]) (hall x.i ?_)
   grind
 intro f
 induction f with
 |zero=>
  intro D J res pd φ listed a w hc hS h
  have hall:=ajn (Nat.le_zero.mp hc)
  unfold wpAny
  refine⟨?_,finish D J res pd φ listed a w hS h hall⟩
  cases hr:Region.ready .any ops listed with
  |nil=>rfl
  |cons i l=>
   have hi:i∈Region.ready .any ops listed:=by grind
   obtain⟨h1,o,ho,-⟩:=mem_ready.1 hi
   grind[P6]
 |succ f ih=>
  intro D J res pd φ listed a w hc hS h
  unfold wpAny
  refine⟨λhr=>finish D J res pd φ listed a w hS h (λi hi=>S.P7 h.lsz hr (i+1) i jb hi),λi hi=>?_⟩
  obtain⟨h1,o,ho,-⟩:=mem_ready.1 hi
  have hnl:=P6 h1
  have hlt:i<ops.size:=by grind
  have hc':cnt ops.size (listed.setIfInBounds i true)<=f:=by have:=aow h.lsz hlt hnl;omega
  have hpre:=S.pre h.clo hi
  rcases h.cov i hlt with h2|⟨p,hp,rfl⟩|⟨y,hy,rfl⟩
  .grind
  .have hag:pd.all (again J)=true:=by cases D<;>exact hS.1
   exact h.pend S hag hp ho hi λa' w' φ' h'=>ih D J res pd φ' _ a' w' hc' hS h'
  .cases D with
   |fin qs=>grind[Dr.tail]
   |act qs x r=>
    simp only[Dr.tail]at hy
    obtain⟨hag,⟨tm,v,σ1,Nz,hs,hrun⟩,hqk,hafter,hst,hap,hsub⟩:=hS
    rcases bw.mp hy with rfl|hy
    .obtain⟨o',ho',himp,hus,hds,hdst,hdK⟩:=F8 (S.dok y (hsub y kc))
     rw[ho]at ho'
     cases ho'
     have ht:RT φ tm a:=YX h.lg (λu hu=>hpre u (hus u hu)) (λt ht z hz e hL=>hnl (h.clo z.i hL y.i (S.osk y (hsub y kc) t ht z hz e))) Nz
     refine PX hcl ho himp h.rel ht hs λcv φ1 w1 e1 r1 v1 n1=>?_
     have hls:y.i<listed.size:=by grind
     have hmono:∀b p,φ b=some p->φ1 b=some p:=λb p hb=>e1.some h.rel.old hb
     have ayk:∀q∈(⟨y.i,y.o.dst,v⟩:Rs)::res,∃z∈all,z.i=q.i/\z.o.dst=q.d:=λq hq=>by
      rcases bw.mp hq with rfl|hq
      .grind
      .exact h.rin q hq
     have hrun':∀q∈(⟨y.i,y.o.dst,v⟩:Rs)::res,∀q'∈(⟨y.i,y.o.dst,v⟩:Rs)::res,q.i=q'.i->q=q':=λq hq q' hq' e=>by
      rcases bw.mp hq with rfl|hq<;>rcases bw.mp hq' with rfl|hq'
      .rfl
      .exact absurd e.symm (h.rre q' hq' y (by simp[Dr.tail]))
      .exact absurd e (h.rre q hq y (by simp[Dr.tail]))
      .exact h.run q hq q' hq' e
     have hyr:∀z∈r.KR,y.i≠z.i:=λz hz=>(vC (l:=[y]) (r:=r.KR) hap).2.2 y kc z hz
     have aBD:Lg φ1 (Bj listed) dw bU all ((⟨y.i,y.o.dst,v⟩:Rs)::res) a:=⟨(h.lg.mono hmono).base,λq hq hL d hd=>by
      rcases bw.mp hq with rfl|hq
      .exact absurd hL hnl
      .exact(h.lg.mono hmono).got q hq hL d hd,(h.lg.mono hmono).old⟩
     have hlg:Lg φ1 (Bj (listed.setIfInBounds y.i true)) dw bU all ((⟨y.i,y.o.dst,v⟩:Rs)::res) (a.put o.dst cv):=by rw[hdst];exact aBD.put S hls ayk hrun' kc (λe he=>⟨aE (hdK e (by rw[hdst];exact he)) h.ksz,hds e he⟩) v1
     have hnew:Ew N w0 P K ops pt all m φ0 dw bU a0 r.KR σ1 ((⟨y.i,y.o.dst,v⟩:Rs)::res) (pd.filter λp=>!((pt.getD y.i []).contains p.i)) φ1 (listed.setIfInBounds y.i true) (a.put o.dst cv) w1:=by
      refine⟨r1,hlg,λp hp=>?_,⟨λp hp b hb=>?_,λp hp b hb hL=>?_,λp hp p' hp'=>h.nam.apart p (fm.mp hp).1 p' (fm.mp hp').1⟩,λp hp=>h.low p (fm.mp hp).1,h.ext.trans e1 h.mle,ar h.mle n1,
       λj hj p hp=>?_,λj hj=>?_,λz hz hl=>?_,by simp[h.lsz],by rw[Jo];exact h.ksz,by rw[put_defers];exact h.dfr,ayk,hrun',λq hq z hz=>?_⟩
      .obtain⟨⟨o',us',os',q1,q2,q3,q6,res2,q4,q5⟩,p2,p3,p4,p5,p6,p7⟩:=h.pok p (fm.mp hp).1;exact⟨⟨o',us',os',q1,q2,q3,q6,res2,λq hq=>by simp[q4 q hq],q5⟩,by simp[p2],p3,p4,p5,p6,p7⟩
      .exact aE (h.nam.lt p (fm.mp hp).1 b hb) n1
      .rw[e1 b (h.nam.lt p (fm.mp hp).1 b hb)];exact h.nam.free p (fm.mp hp).1 b hb (λhl=>hL ((lQ hls _).mpr (.inr hl)))
      .rw[lQ hls]at hj⊢;rcases hj with rfl|hj
       .exact .inr (hpre p hp)
       .exact .inr (h.clo j hj p hp)
      .rcases h.cov j hj with h3|⟨p,hp,e⟩|⟨z,hz,e⟩
       .exact .inl ((lQ hls j).mpr (.inr h3))
       .by_cases hin:(pt.getD y.i []).contains p.i=true
        .exact .inl ((lQ hls j).mpr (.inr (by rw[<-e];exact hpre p.i hin)))
        .exact .inr (.inl ⟨p,fm.mpr ⟨hp,by simpa using hin⟩,e⟩)
       .simp only[Dr.tail]at hz;rcases bw.mp hz with rfl|hz
        .exact .inl ((lQ hls j).mpr (.inl e.symm))
        .exact .inr (.inr ⟨z,hz,e⟩)
      .rcases(lQ hls z.i).mp hl with e|e
       .exact hyr z hz e.symm
       .exact h.unl z (by simp[Dr.tail,hz]) e
      .rcases bw.mp hq with rfl|hq
       .exact hyr z hz
       .exact h.rre q hq z (by simp[Dr.tail,hz])
     obtain⟨σ2,res2,pd2,hS2,hI2⟩:=MO S (D:=r) hst (vC (l:=[y]) (r:=r.KR) hap).2.1 (λz hz=>hsub z (by simp[hz])) hnew hrun
     grind
    .exact absurd (hpre x.i (hafter y hy)) (h.unl x (by simp[Dr.tail]))
def ab6[hPP:rJ P]{cl:Nat->List V->St->Option (V×St)}(hcl:Wj P cl)(hm:P.follows .mixedOrders=true){id:Nat}{Q:Exit->Act->World->Prop}{D:Dr}(hi:ajm P K ops D pt ds=true)
  (hR:Rel N w0 φ J w) (ht:RT φ tm a) (hK:K<=a.tmps.size) (he:CQ tm ds=some bU) (h:Bz cl pt tm bU D J [] []=some (tm',J')) (hQ:∀a' w',After N w0 φ J J' tm' a K a' w'->Q .normal a' w'):
  (Code.region id ops true).wp P Q a w:=by
 unfold ajm at hi
 simp only[af,eA]at hi
 obtain⟨⟨i1,i5⟩,i2,i3,i4⟩:=hi
 obtain⟨e1,e2⟩:=MN he
 have S:DSt P K ops pt ds D.KR bU:=⟨λx hx t ht y hy e=>by grind,i1,i2,λi hi=>(i4 i (fi.mpr hi)).1,e1⟩
 have nol:∀i,¬Bj (Array.replicate ops.size false) i:=λi=>by unfold Bj;simp only[fS,Array.getElem?_replicate];grind
 have h0:Ew N w0 P K ops pt D.KR J.aj φ tm bU a D.KR J [] [] φ (Array.replicate ops.size false) a { w with drawn:=w.drawn+1 }:=by
  refine⟨hR.drawn,⟨λt u hu=>?_,λr hr=>(by cases hr),λt _=>RV.tm ht t⟩,λp hp=>(by cases hp),⟨λp hp=>(by cases hp),λp hp=>(by cases hp),λp hp=>(by cases hp)⟩,λp hp=>(by cases hp),Ext.refl _ _,jp,
   λi hi=>absurd hi (nol i),λi hi=>?_,λy _=>nol y.i,by simp,hK,rfl,λr hr=>(by cases hr),λr hr=>(by cases hr),λr hr=>(by cases hr)⟩
  .rcases e2 t with h9|h9
   .grind
   .rw[h9]at hu;exact ht t u hu
  simp_all
 obtain⟨σ2,res2,pd2,hS2,hI2⟩:=MO S i3 i2 (λy hy=>hy) h0 h
 refine wp_region_any hm (agp S hcl (λa' w' φ' q1 q2 q3 q4 q5 q6=>hQ a' w' ⟨q1,q2,φ',q3,q4,q5,q6⟩) ops.size D σ2 res2 pd2 φ _ a _ ?_ hS2 hI2)
 grind[Go.Proofs.Xe.cnt]
end
def gu(P:Program)(K:Nat):AC->Code->Bool
 |.skip,.skip=>true
 |.skip,.label _=>true
 |.ops l,.region _ ops false=>PY P K ops ops.toList l
 |.drawn d pt ds,.region _ ops true=>ajm P K ops d pt ds
 |.seq x y,.seq a b=>gu P K x a&&gu P K y b
 |.cond x y z,.cond c a b=>wQ c x&&(gu P K y a&&gu P K z b)
 |.block j x,.block i a=>Nat.beq i j&&gu P K x a
 |.loop x,.loop a=>gu P K x a
 |.exit j,.exit i=>Nat.beq i j
 |.ret,.ret=>true
 |.bad,_=>true
 |_,_=>false
def Ik(P:Program):List ResultVar->List (Nat×Option (Nat×Bool))->Bool
 |[],[]=>true
 |.tmp t::r,(i,none)::l=>Nat.beq t i&&Ik P r l
 |.cell t ty::r,(i,some (n,g))::l=>Nat.beq t i&&(agi P ty n g&&Ik P r l)
 |_,_=>false
def Wq(P:Program)(f:Nat)(F:AF):Bool:=
 match P.funcs[f]? with
 |some fn=>(match fn.body with
  |some c=> !(fn.name== "runtime.NumGoroutine")&&(gu P fn.ntmps F.body c&&Ik P fn.results.toList F.res)
  |none=>false)
 |none=>false
structure MP(P:Program)(E:Env):Prop where
 fns:∀f F,E.fns f=some F->Wq P f F=true
 Nw:∀f args J v J',E.Nw f args J=some (v,J')->okF P f/\∀(N:Nat) (w0:World) (φ:Ph) (w:World) (aV:Array Value),Rel N w0 φ J w->BA φ args aV.toList->Calls P f aV w λe w'=>∃cv,e=.returned cv/\∃φ',Ext J.aj φ φ'/\Rel N w0 φ' J' w'/\RV φ' v cv/\J.aj<=J'.aj
section
variable {P:Program} {N:Nat} {w0 w w' : World} {φ φ' : Ph} {J J' : St} {tm tm' : Tr V} {a:Act} {v:V}
def BA.get:∀{l:List V}{r:List Value}(j:Nat) (x:V),BA φ l r->l[j]?=some x->∃u,r[j]?=some u/\RV φ x u
 |_::_,u::_,0,_,hv,h=>by cases h;exact⟨u,rfl,hv.1⟩
 |_::l,_::r,j+1,x,hv,h=>BA.get (l:=l) (r:=r) j x hv.2 kd
 |[],_,_,_,_,h=>by simp at h
 |_::_,[],_,_,hv,_=>hv.elim
def P8:∀(args:List V) (i:Nat) (t t':Tr V),Jh args i t=some t'->∀j,t'.get j=if i<=j/\j<i+args.length then args[j-i]? else t.get j
 |[],i,t,t',h,j=>by grind[Jh]
 |u::r,i,t,t',h,j=>by
  unfold Jh at h;split at h
  .next t1 h1=>
   rw[P8 r (i+1) t1 t' h j,Tr.get_put _ 40 _ _ _ j h1];grind
  .cases h
def Ey(hR:Rel N w0 φ J w)(ht:RT φ tm a):∀(rs:List ResultVar) (l:List (Nat×Option (Nat×Bool))) (v:V),Ik P rs l=true->rH tm J l=some v->
  ∃vs,(rs.mapM (λ(x:ResultVar)=>match x with|.tmp t=>(pure (a.tmps.getD t undef):Sem Value)|.cell c t=>do loadVar t (<-asAddr (a.tmps.getD c undef)))).run P w=.ok vs w/\RV φ v (.tuple vs.toArray)/\vs.length=l.length
 |[],[],v,_,h=>by simp only[rH,aT]at h;subst h;exact⟨[],by simp,rfl,rfl⟩
 |.tmp t::rs,(i,none)::l,v,hi,h=>by
  unfold Ik at hi;rw[af]at hi;have e:=aq hi.1;subst e;unfold rH at h;split at h
  .next u r hu hr=>
   cases h;obtain⟨vs,h1,h2,h3⟩:=Ey hR ht rs l r hi.2 hr;refine⟨a.tmps.getD t undef::vs,?_,⟨_,vs,rfl,ht t u hu,h2⟩,by simp[h3]⟩;rw[List.mapM_cons];simp only[Sem.run_bind,Sem.run_pure,Result.andThen_ok,h1]
  .cases h
 |.cell t ty::rs,(i,some (n,g))::l,v,hi,h=>by
  unfold Ik at hi;simp only[af]at hi;obtain⟨i1,i2,i3⟩:=hi;have e:=aq i1;subst e;unfold rH at h;split at h
  .next u r hu hr=>
   cases h;obtain⟨vs,h1,h2,h3⟩:=Ey hR ht rs l r i3 hr;simp only[dA,ad6]at hu;have hx:=RV.tm ht t;simp only[O.ev]at hu;split at hu
   .next b o e=>
    rw[e]at hx;obtain⟨p,hp,e2⟩:=hx;split at hu
    .next k hk=>
     obtain⟨hpl,hu⟩:k.rd=true/\zT k.cells o _ _=some u:=by
      cases hpl:k.rd with
      |false=>rw[hpl]at hu;cases hu
      |true=>rw[hpl]at hu;exact⟨rfl,hu⟩
     obtain⟨cv,h4,h5⟩:=Ji (P:=P) hR i2 hk hpl hp hu;refine⟨cv::vs,?_,⟨_,vs,rfl,h5,h2⟩,by simp[h3]⟩;simp_all[asAddr]
    grind
   grind
  .cases h
 |[],_::_,_,h,_=>by cases h
 |.tmp _::_,[],_,h,_=>by cases h
 |.cell _ _::_,[],_,h,_=>by cases h
 |.tmp _::_,(_,some _)::_,_,h,_=>by cases h
 |.cell _ _::_,(_,none)::_,_,h,_=>by cases h
def YZ(hR:Rel N w0 φ J w)(ht:RT φ tm a){fn:Func}{l:List (Nat×Option (Nat×Bool))}(hi:Ik P fn.results.toList l=true)(h:result tm J l=some v):
  ∃cv,(results fn a.tmps).run P w=.ok cv w/\RV φ v cv:=by
 unfold result at h
 cases hg:rH tm J l with
 |none=>grind
 |some u=>
  rw[hg]at h
  obtain⟨vs,h1,h2,h3⟩:=Ey (P:=P) hR ht fn.results.toList l u hi hg
  have hrun:(results fn a.tmps).run P w=.ok (if h:vs.toArray.size=1 then vs.toArray[0]else .tuple vs.toArray) w:=by unfold results;rw[Array.mapM_eq_mapM_toList];simp only[Sem.run_bind,Sem.run_map];erw [h1];rfl
  rw[hrun]
  split at h
  .next v' e=>
   cases e
   cases h
   obtain⟨x,xs,e1,e2,e3⟩:=h2
   have e3:xs=[]:=by have:Value.tuple xs.toArray=.tuple #[]:=e3;grind
   grind
  .next hne=>
   cases h
   refine⟨.tuple vs.toArray,?_,h2⟩
   rw[dif_neg]
   intro h1'
   have hl1:l.length=1:=by grind
   obtain⟨⟨i,q⟩,rfl⟩:=List.length_eq_one_iff.mp hl1
   cases q with
   |none=>
    grind[rH]
   |some q=>
    grind[rH]
def cX:AX->Exit
 |.normal=>.normal
 |.exit i=>.exit i
 |.ret=>.ret
def LoopIn(P:Program)(c:Code)(Q:Exit->Act->World->Prop)(a:Act)(w:World):Prop:=
 ∀(b:Frame) (k:List Item) (cs:List Frame),∃e a' w',Q e a' w'/\Arrives P (lone (b.at a (.code c:: .inLoop c::k)) cs w) b k cs e a' w'
def agq{c:Code}{Q:Exit->Act->World->Prop}(h:LoopIn P c Q a w):(Code.loop c).wp P Q a w:=λb k cs=>
 let ⟨e,a',w',hq,harr⟩:=h b k cs
 ⟨e,a',w',hq,.of_steps (.one step_loop) harr⟩
def Ws{c:Code}{Q:Exit->Act->World->Prop}(h:c.wp P (Exit.then (LoopIn P c Q) Q) a w):LoopIn P c Q a w:=by
 intro b k cs;obtain⟨e,a₁,w₁,hq,harr⟩:=h b (.inLoop c::k) cs;cases e with
 |normal=>
  obtain⟨e₂,a₂,w₂,hq₂,harr₂⟩:=hq b k cs
  exact⟨e₂,a₂,w₂,hq₂,.of_steps (Steps.trans harr (.one step_inLoop)) harr₂⟩
 |exit id=>exact⟨_,a₁,w₁,hq,.pass (x:=.inLoop c) rfl (λ_ _=>.inl kc) harr⟩
 |goto l=>exact⟨_,a₁,w₁,hq,.pass (x:=.inLoop c) rfl (λ_ _=>.inl kc) harr⟩
 |ret=>exact⟨_,a₁,w₁,hq,.pass (x:=.inLoop c) rfl (λ_ _=>.inl kc) harr⟩
 |panic ch=>exact⟨_,a₁,w₁,hq,.pass (x:=.inLoop c) rfl (λ_ _=>.inl kc) harr⟩
 |outgrown=>exact⟨_,a₁,w₁,hq,.pass (x:=.inLoop c) rfl (λ_ _=>.inl kc) harr⟩
def XOk(P:Program)(E:Env)(n:Nat):Prop:=
 ∀(K:Nat) (c:Code) (ac:AC) (tm:Tr V) (J:St) (e:AX) (tm':Tr V) (J':St),gu P K ac c=true->exec E n ac tm J=some (e,tm',J')->∀(N:Nat) (w0:World) (φ:Ph) (a:Act) (w:World),Rel N w0 φ J w->RT φ tm a->K<=a.tmps.size->
  ∀Q:Exit->Act->World->Prop,(∀a' w',After N w0 φ J J' tm' a K a' w'->Q (cX e) a' w')->c.wp P Q a w
def LOk(P:Program)(E:Env)(n:Nat):Prop:=
 ∀(K:Nat) (c:Code) (ac:AC) (tm:Tr V) (J:St) (e:AX) (tm':Tr V) (J':St),gu P K ac c=true->exec E n (.loop ac) tm J=some (e,tm',J')->∀(N:Nat) (w0:World) (φ:Ph) (a:Act) (w:World),Rel N w0 φ J w->RT φ tm a->K<=a.tmps.size->
  ∀Q:Exit->Act->World->Prop,(∀a' w',After N w0 φ J J' tm' a K a' w'->Q (cX e) a' w')->LoopIn P c Q a w
def ags{E:Env}{n:Nat}(hX:XOk P E n)(hL:LOk P E n):LOk P E (n+1):=by
 intro K c ac tm J e tm' J' hi h N w0 φ a w hR ht hK Q hQ;simp only[exec,aoc]at h;refine Ws ?_;cases hx:exec E n ac tm J with
 |none=>grind
 |some r=>
  obtain⟨e1,KQ,σ1⟩:=r
  rw[hx]at h
  cases e1 with
  |normal=>
   simp only at h
   refine hX K c ac tm J .normal KQ σ1 hi hx N w0 φ a w hR ht hK _ λa1 w1 hA=>?_
   obtain⟨q1,q2,φ1,q3,q4,q5,q6⟩:=hA
   exact hL K c ac KQ σ1 e tm' J' hi h N w0 φ1 a1 w1 q4 q5 q2 Q λa2 w2 hA2=>hQ a2 w2 (hA2.trans q1 q3 q6)
  |exit i=>
   simp only[aT,cQ]at h
   obtain⟨rfl,rfl,rfl⟩:=h
   exact hX K c ac tm J _ _ _ hi hx N w0 φ a w hR ht hK _ λa1 w1 hA=>hQ a1 w1 hA
  |ret=>
   simp only[aT,cQ]at h
   obtain⟨rfl,rfl,rfl⟩:=h
   exact hX K c ac tm J _ _ _ hi hx N w0 φ a w hR ht hK _ λa1 w1 hA=>hQ a1 w1 hA
def agt[hPP:rJ P]{E:Env}(hm:P.follows .mixedOrders=true){n:Nat}(hX:XOk P E n)(hL:LOk P E (n+1))(hC:Wj P (iD E n)):XOk P E (n+1):=by
 intro K c ac tm J e tm' J' hi h N w0 φ a w hR ht hK Q hQ;cases ac with
 |skip=>
  simp only[exec,aT,cQ]at h
  obtain⟨rfl,rfl,rfl⟩:=h
  have hA:After N w0 φ J J tm a K a w:=⟨rfl,hK,φ,Ext.refl _ _,hR,ht,jp⟩
  cases c<;>simp only[gu,cE,reduceCtorEq]at hi
  case skip=>exact wp_skip (hQ a w hA)
  case label=>exact wp_label (hQ a w hA)
 |ops l=>
  simp only[exec,YH]at h
  cases c<;>(try(simp only[gu,cE]at hi;done))
  case region id ops dr=>
   cases dr with
   |true=>grind[gu]
   |false=>
    simp only[gu]at hi
    split at h
    .next KQ σ1 hr=>
     simp only[aT,cQ]at h
     obtain⟨rfl,rfl,rfl⟩:=h
     exact YW hC hi hR ht hK hr hQ
    .cases h
 |drawn d pt ds=>
  simp only[exec,xDr,YH]at h
  cases c<;>(try(simp only[gu,cE]at hi;done))
  case region id ops dr=>
   cases dr with
   |false=>grind[gu]
   |true=>
    simp only[gu]at hi
    split at h
    .next bU he=>
     split at h
     .next KQ σ1 hr=>
      simp only[aT,cQ]at h
      obtain⟨rfl,rfl,rfl⟩:=h
      exact ab6 hC hm hi hR ht hK he hr hQ
     .cases h
    .cases h
 |seq x y=>
  simp only[exec,aoc]at h
  cases c<;>(try(simp only[gu,cE]at hi;done))
  case seq ca cb=>
   simp only[gu,af]at hi;refine wp_seq ?_;cases hx:exec E n x tm J with
   |none=>grind
   |some r=>
    obtain⟨e1,KQ,σ1⟩:=r
    rw[hx]at h
    cases e1 with
    |normal=>
     simp only at h
     refine hX K ca x tm J .normal KQ σ1 hi.1 hx N w0 φ a w hR ht hK _ λa1 w1 hA=>?_
     obtain⟨q1,q2,φ1,q3,q4,q5,q6⟩:=hA
     exact hX K cb y KQ σ1 e tm' J' hi.2 h N w0 φ1 a1 w1 q4 q5 q2 Q λa2 w2 hA2=>hQ a2 w2 (hA2.trans q1 q3 q6)
    |exit i=>
     simp only[aT,cQ]at h
     obtain⟨rfl,rfl,rfl⟩:=h
     exact hX K ca x tm J _ _ _ hi.1 hx N w0 φ a w hR ht hK _ λa1 w1 hA=>hQ a1 w1 hA
    |ret=>
     simp only[aT,cQ]at h
     obtain⟨rfl,rfl,rfl⟩:=h
     exact hX K ca x tm J _ _ _ hi.1 hx N w0 φ a w hR ht hK _ λa1 w1 hA=>hQ a1 w1 hA
 |cond x y z=>
  simp only[exec,YI]at h
  cases c<;>(try(simp only[gu,cE]at hi;done))
  case cond cc ca cb=>
   simp only[gu,af]at hi;have hx:=bW hi.1 ht;split at h
   .next t hev=>
    rw[hev]at hx;have hx:a.eval cc=.bool t:=hx;refine wp_cond hx ?_;cases t with
    |true=>exact hX K ca y tm J e tm' J' hi.2.1 h N w0 φ a w hR ht hK Q hQ
    |false=>exact hX K cb z tm J e tm' J' hi.2.2 h N w0 φ a w hR ht hK Q hQ
   .cases h
 |block j x=>
  simp only[exec,ai7]at h
  cases c<;>(try(simp only[gu,cE]at hi;done))
  case block i ca=>
   simp only[gu,af]at hi;have hij:=aq hi.1;subst hij;refine wp_block ?_;cases hx:exec E n x tm J with
   |none=>grind
   |some r=>
    obtain⟨e1,KQ,σ1⟩:=r
    rw[hx]at h
    cases e1 with
    |normal=>
     simp only[aT,cQ]at h
     obtain⟨rfl,rfl,rfl⟩:=h
     exact hX K ca x tm J _ _ _ hi.2 hx N w0 φ a w hR ht hK _ λa1 w1 hA=>hQ a1 w1 hA
    |exit k=>
     simp only[aT,cQ]at h
     obtain⟨he,rfl,rfl⟩:=h
     refine hX K ca x tm J _ _ _ hi.2 hx N w0 φ a w hR ht hK _ λa1 w1 hA=>?_
     have:=hQ a1 w1 hA
     rw[<-he]at this
     show if k=i then Q .normal a1 w1 else Q (.exit k) a1 w1
     rw[pR]at this
     by_cases hk:k=i
     .rw[ab hk]at this⊢;exact this
     .rw[ae hk]at this⊢;exact this
    |ret=>
     simp only[aT,cQ]at h
     obtain⟨rfl,rfl,rfl⟩:=h
     exact hX K ca x tm J _ _ _ hi.2 hx N w0 φ a w hR ht hK _ λa1 w1 hA=>hQ a1 w1 hA
 |loop x=>
  cases c<;>(try(simp only[gu,cE]at hi;done))
  case loop ca=>
   simp only[gu]at hi;exact agq (hL K ca x tm J e tm' J' hi h N w0 φ a w hR ht hK Q hQ)
 |exit j=>
  simp only[exec,aT,cQ]at h
  obtain⟨rfl,rfl,rfl⟩:=h
  cases c<;>(try(simp only[gu,cE]at hi;done))
  case exit i=>
   simp only[gu]at hi;have hij:=aq hi;subst hij;exact wp_exit (hQ a w ⟨rfl,hK,φ,Ext.refl _ _,hR,ht,jp⟩)
 |ret=>
  simp only[exec,aT,cQ]at h
  obtain⟨rfl,rfl,rfl⟩:=h
  cases c<;>(try(simp only[gu,cE]at hi;done))
  case ret=>exact wp_ret (hQ a w ⟨rfl,hK,φ,Ext.refl _ _,hR,ht,jp⟩)
 |bad=>simp only[exec,reduceCtorEq]at h
def agu{E:Env}(hE:MP P E){n:Nat}(hX:XOk P E n):Wj P (iD E (n+1)):=by
 intro f args J v J' h N w0 φ w aV hR ha;simp only[iD,Hz,agd]at h;split at h
 .next u hu=>
  obtain⟨h1,h2⟩:=hE.Nw f args J v J' kd;grind
 .split at h
  .next F hF=>
   have hi:=hE.fns f F hF;unfold Wq at hi;split at hi
   .next fn hfn=>
    split at hi
    .next c hc=>
     simp only[af,eC]at hi;obtain⟨i1,i2,i3⟩:=hi;refine⟨⟨fn,hfn,by grind,i1⟩,?_⟩;split at h
     .next tm Nz=>
      have hget:=P8 args 0 .leaf tm Nz;have hK:fn.ntmps<=({ tmps:=aV++Array.replicate (fn.ntmps-aV.size) undef,defers:=[] }:Act).tmps.size:=by grind
      have ht:RT φ tm { tmps:=aV++Array.replicate (fn.ntmps-aV.size) undef,defers:=[] }:=λj u hu=>by
       rw[hget j]at hu;split at hu
       .obtain⟨cu,h1,h2⟩:=ha.get _ _ hu;simp only[Nat.sub_zero,Array.getElem?_toList]at h1;have hj:j<aV.size:=by grind
        have h3:(aV++Array.replicate (fn.ntmps-aV.size) undef)[j]?=some cu:=by grind
        simp_all
       grind[Tr.Eh]
      have fin:∀(e:AX) (KQ:Tr V) (σ1:St),exec E n F.body tm J=some (e,KQ,σ1)->e=.normal\/e=.ret->(match result KQ σ1 F.res with|some v=>some (v,σ1)|none=>none)=some (v,J')->
        Calls P f aV w λe w'=>∃cv,e=.returned cv/\∃φ',Ext J.aj φ φ'/\Rel N w0 φ' J' w'/\RV φ' v cv/\J.aj<=J'.aj:=by
       intro e KQ σ1 hx he hr
       split at hr
       .next u hu=>
        simp only[aT,cQ]at hr
        obtain⟨rfl,rfl⟩:=hr
        refine calls_of_wp hfn hc (hX fn.ntmps c F.body tm J e KQ σ1 i2 hx N w0 φ _ w hR ht hK _ λa1 w1 hA=>?_)
        obtain⟨q1,q2,φ1,q3,q4,q5,q6⟩:=hA
        obtain⟨cv,r1,r2⟩:=YZ (P:=P) q4 q5 i3 hu
        have hpost:a1.defers=[]/\∃v',(results fn a1.tmps).run P w1=.ok v' w1/\∃cv,Ending.returned v'=.returned cv/\∃φ',Ext J.aj φ φ'/\Rel N w0 φ' σ1 w1/\RV φ' u cv/\J.aj<=σ1.aj:=
         ⟨q1,cv,r1,cv,rfl,φ1,q3,q4,r2,q6⟩
        rcases he with rfl|rfl
        .exact hpost
        .exact hpost
       grind
      grind
     .cases h
    grind
   grind
  .cases h
def Ut[hPP:rJ P]{E:Env}(hE:MP P E)(hm:P.follows .mixedOrders=true):∀n,XOk P E n/\LOk P E n/\Wj P (iD E n)
 |0=>⟨λK c ac tm J e tm' J' _ h=>by grind[exec],λK c ac tm J e tm' J' _ h=>by grind[exec],λf args J v J' h=>by grind[iD]⟩
 |n+1=>by obtain⟨h1,h2,h3⟩:=Ut hE hm n;have hL:=ags h1 h2;exact⟨agt hm h1 hL h3,hL,agu hE h1⟩
def KT[hPP:rJ P]{E:Env}(hE:MP P E)(hm:P.follows .mixedOrders=true){n f:Nat}{args:List V}{J J':St}{v:V}(h:iD E n f args J=some (v,J')){N:Nat}{w0 w:World}{φ:Ph}{aV:Array Value}(hR:Rel N w0 φ J w)(ha:BA φ args aV.toList):
  Calls P f aV w λe w'=>∃cv,e=.returned cv/\∃φ',Ext J.aj φ φ'/\Rel N w0 φ' J' w'/\RV φ' v cv/\J.aj<=J'.aj:=
 ((Ut hE hm n).2.2 f args J v J' h N w0 φ w aV hR ha).2
end
end Go.Proofs.Xe
