import Derived.Test.YtodnohicahohdaaGreatDoorYh6
import Derived.Orders
set_option linter.all false
namespace Go.Proofs.Xe
open Go.RowKit Go.Proofs.Ins
def ayh(op:Op):xq->Bool
 |.call g args=>(match op with|.call c=>(match c.callee with|.value f=>wQ f g&&abZ c.args.toList args|_=>false)|_=>false)
 |_=>false
def ajl(K:Nat):Option Nat->Option Nat->Bool
 |none,none=>true
 |some d,some e=>Nat.beq d e&&Nat.blt d K
 |_,_=>false
def atI(ops:Array Oper):Option (Nat×Bool)->Option (Nat×Bool)->Bool
 |none,none=>true
 |some (j,b),some (t,c)=>(match(ops[j]?).bind (·.dst)with|some d=>Nat.beq d t|none=>false)&&(b==c)
 |_,_=>false
def PW(P:Program)(K:Nat)(ops:Array Oper)(o:Oper)(ao:AO):Bool:=
 atI ops o.guard ao.g&&(ajl K o.dst ao.dst&&(match ao.op.kind with|.q=>jo P o.op ao.op|.n=>TA P o.op ao.op|.a=>Ny P o.op ao.op|.c=>ayh o.op ao.op))
def okF(P:Program)(f:Nat):Prop:=∃fn,P.funcs[f]?=some fn/\fn.body.isNone=false/\(fn.name== "runtime.NumGoroutine")=false
section
variable {P:Program} {N:Nat} {w0 w w' : World} {φ φ' : Ph} {J J' : St} {tm tm' : Tr V} {a:Act} {v:V}
def Wj(P:Program)(cl:Nat->List V->St->Option (V×St)):Prop:=
 ∀(f:Nat) (args:List V) (J:St) (v:V) (J':St),cl f args J=some (v,J')->∀(N:Nat) (w0:World) (φ:Ph) (w:World) (aV:Array Value),Rel N w0 φ J w->BA φ args aV.toList->
  okF P f/\Calls P f aV w λe w'=>∃cv,e=.returned cv/\∃φ',Ext J.aj φ φ'/\Rel N w0 φ' J' w'/\RV φ' v cv/\J.aj<=J'.aj
def BA.append:∀{l:List V}{r:List Value}{l':List V}{r':List Value},BA φ l r->BA φ l' r'->BA φ (l++l') (r++r')
 |[],[],_,_,_,h=>h
 |_::_,_::_,_,_,hv,h=>⟨hv.1,BA.append hv.2 h⟩
 |[],_::_,_,_,hv,_=>hv.elim
 |_::_,[],_,_,hv,_=>hv.elim
def lX.asu:∀{l:List B}{r:List Value},lX φ l r->BA φ (l.map .c) r
 |[],[],_=>trivial
 |_::_,_::_,hv=>⟨hv.1,lX.asu hv.2⟩
 |[],_::_,hv=>hv.elim
 |_::_,[],hv=>hv.elim
theorem Ij{K:Nat}{d e:Option Nat}(h:ajl K d e=true):d=e/\∀i,d=some i->i<K:=by
 unfold ajl at h;split at h
 .simp
 .next x y=>
  rw[af]at h;have h1:=aq h.1;simp_all
 .cases h
theorem RT.put(h:RT φ tm a){d:Option Nat}{cv:Value}(hs:KI tm d v=some tm')(hv:RV φ v cv)(hd:∀i,d=some i->i<a.tmps.size):RT φ tm' (a.put d cv):=by
 cases d with
 |none=>
  simp only[KI,aT]at hs
  subst hs
  exact h
 |some d=>
  simp only[KI]at hs
  have hlt:=hd d rfl
  intro t u ht
  rw[Tr.get_put _ _ _ _ _ t hs]at ht
  simp only[Act.put,fS,Array.getElem?_setIfInBounds]
  by_cases e:d=t
  .grind
  .rw[ae (λe2=>e e2.symm)]at ht
   rw[ae e]
   have:=h t u ht
   simp_all
theorem ab3[hPP:rJ P]{cl:Nat->List V->St->Option (V×St)}(hcl:Wj P cl){K:Nat}{ops:Array Oper}{o:Oper}{ao:AO}(hi:PW P K ops o ao=true)(hR:Rel N w0 φ J w)(ht:RT φ tm a)(h:oK cl ao.op tm J=some (v,J'))
  {next:Act->World->Prop}{Q:Exit->Act->World->Prop}(hn:∀cv φ' w',Ext J.aj φ φ'->Rel N w0 φ' J' w'->RV φ' v cv->J.aj<=J'.aj->next (a.put o.dst cv) w'):o.wp P a w next Q:=by
 unfold PW at hi
 simp only[af]at hi
 obtain⟨-,-,hi⟩:=hi
 unfold oK at h
 unfold Oper.wp
 cases hk:ao.op.kind with
 |q=>
  rw[hk]at hi h
  simp only at hi h
  split at h
  .next u hu=>
   cases h
   obtain⟨cv,h1,h2⟩:=PL hR hi hu ht o rfl
   rw[h1]
   exact hn cv φ w (Ext.refl _ _) hR h2 jp
  .cases h
 |n=>
  rw[hk]at hi h
  simp only at hi h
  split at h
  .next l vf hl=>
   split at h
   .next b PV hnew=>
    cases h
    obtain⟨cs,T,cv,h1,h2,h3⟩:=PS (w:=w) hi hl ht o rfl
    rw[h1]
    obtain⟨hb,hnx,-⟩:=yM hnew
    subst hb
    refine hn cv (Jm φ J.aj (w.heap.size,0)) _ (yL φ J.aj _) (hR.new hnew (World.grownBy_alloc w _ _) hR.size kc (λi p hi' _ e=>?_) (.inl ⟨aod,cs,T,heap_alloc_new w _,?_,?_,λe t h9=>by cases h9⟩)) (h3 _ _ (iE _ _ _)) jb
    .have:=hR.lo i p hi'
     omega
    .rw[eh (by rw[h2.length];omega)]
     exact h2
    .rw[h2.length,cD]
     omega
   .cases h
  .cases h
 |a=>
  rw[hk]at hi h
  simp only at hi h
  obtain⟨nx,cv,w1,h1,h2,φ',h3,h4,h5,h6⟩:=ab2 hR hi h ht o rfl
  rw[h1]
  rcases h2 with rfl|⟨rfl,rfl⟩
  .exact hn cv φ' w1 h3 h4 h5 h6
  .exact hn undef φ' w1 h3 h4 h5 h6
 |c=>
  rw[hk]at hi h
  simp only at hi h
  split at h
  .next f args hc=>
   unfold Pz at hc
   split at hc
   .next g ayi hop=>
    rw[hop]at hi
    simp only[ayh]at hi
    split at hi
    .next c hoc=>
     split at hi
     .next F hF=>
      rw[af]at hi
      have hg:=bW hi.1 ht
      have has:=YK ht hi.2
      split at hc
      .next f' caps he=>
       cases hc
       rw[he]at hg
       obtain⟨r,e1,hr⟩:=hg
       have hargs:BA φ (List.map (λx=>O.ev tm x) ayi++caps.map .c) ((c.args.map a.eval)++r).toList:=by rw[Array.toList_append,Array.toList_map];exact has.append hr.asu
       obtain⟨⟨fn,hf1,hf2,hf3⟩,hC⟩:=hcl f _ J v J' h N w0 φ w _ hR hargs
       have hrun:(execOp a.eval o).run P w=.ok (.enter f ((c.args.map a.eval)++r)) w:=by
        have aBB:¬fn.body=none:=λe=>by grind
        have aBC:¬fn.name= "runtime.NumGoroutine" :=by grind
        simp[execOp,hoc,resolve,hF,e1,Deferred.ofValue,invoke,callFunc,hf1,aBB,aBC]
       rw[hrun]
       refine Calls.mono hC λe w2 he=>?_
       grind
      grind
     grind
    grind
   grind
  .cases h
theorem KP{ops:Array Oper}{o:Oper}{g:Option (Nat×Bool)}{b:Bool}(hi:atI ops o.guard g=true)(ht:RT φ tm a)(h:gate g tm=some b):Region.wanted o (yielded ops a.tmps)=b:=by
 unfold Region.wanted;unfold atI at hi;split at hi
 .grind[gate]
 .next j want t c hg=>
  rw[hg];simp only[af]at hi;obtain⟨h1,h2⟩:=hi;have h2:=eq_of_beq h2;subst h2;split at h1
  .next d hd=>
   have h1:=aq h1;subst h1;have hv:=RV.tm ht d;simp only[gate]at h;simp only[yielded,hd,Option.bind_some];rw[fS]at hv;split at h
   .next x e=>
    rw[e]at hv;cases hl:a.tmps[d]? with
    |none=>grind[RV,RB,undef]
    |some u=>
     rw[hl]at hv
     have hv:u=.bool x:=hv
     simp_all
   .next e=>
    rw[e]at hv;cases h;cases hl:a.tmps[d]? with
    |none=>rfl
    |some u=>
     rw[hl]at hv
     have hv:u=.tuple #[]:=hv
     grind
   .cases h
  grind
 grind
def PX[hPP:rJ P]{cl:Nat->List V->St->Option (V×St)}(hcl:Wj P cl){K i:Nat}{ops:Array Oper}{o:Oper}{ao:AO}(hoi:ops[i]?=some o)(hi:PW P K ops o ao=true)(hR:Rel N w0 φ J w)(ht:RT φ tm a)(h:stepG cl ao tm J=some (v,J'))
  {next:Act->World->Prop}{Q:Exit->Act->World->Prop}(hn:∀cv φ' w',Ext J.aj φ φ'->Rel N w0 φ' J' w'->RV φ' v cv->J.aj<=J'.aj->next (a.put o.dst cv) w'):wpOp P ops Q i next a w:=by
 have hi':=hi
 unfold PW at hi'
 simp only[af]at hi'
 unfold stepG at h
 unfold wpOp
 simp only[hoi]
 split at h
 .grind[KP,ab3]
 .next hg=>
  rw[ae (by grind[KP])]
  cases h
  exact hn undef φ w (Ext.refl _ _) hR rfl jp
 .cases h
def After(N:Nat)(w0:World)(φ:Ph)(J J':St)(tm':Tr V)(a:Act)(K:Nat)(a':Act)(w':World):Prop:=
 a'.defers=a.defers/\K<=a'.tmps.size/\∃φ',Ext J.aj φ φ'/\Rel N w0 φ' J' w'/\RT φ' tm' a'/\J.aj<=J'.aj
def After.trans{σ2:St}{YV:Tr V}{a1 a2:Act}{w2:World}{K:Nat}{φ1:Ph}(h1:a1.defers=a.defers)(h2:Ext J.aj φ φ1)(h3:J.aj<=J'.aj)(h:After N w0 φ1 J' σ2 YV a1 K a2 w2):After N w0 φ J σ2 YV a K a2 w2:=by obtain⟨q1,q2,φ',q3,q4,q5,q6⟩:=h;exact⟨q1.trans h1,q2,φ',h2.trans q3 h3,q4,q5,ar h3 q6⟩
def put_defers(a:Act)(d:Option Nat)(v:Value):(a.put d v).defers=a.defers:=by cases d<;>rfl
theorem Jo(a:Act)(d:Option Nat)(v:Value):(a.put d v).tmps.size=a.tmps.size:=by cases d<;>simp[Act.put]
def PY(P:Program)(K:Nat)(ops:Array Oper):List Oper->List AO->Bool
 |[],[]=>true
 |o::r,x::l=>PW P K ops o x&&PY P K ops r l
 |_,_=>false
theorem MJ[hPP:rJ P]{cl:Nat->List V->St->Option (V×St)}(hcl:Wj P cl){K:Nat}{ops:Array Oper}{Q:Exit->Act->World->Prop}:∀(os:List Oper) (l:List AO) (s:Nat) (tm:Tr V) (J:St) (φ:Ph) (a:Act) (w:World),PY P K ops os l=true->
  (∀j o,os[j]?=some o->ops[s+j]?=some o)->Rel N w0 φ J w->RT φ tm a->K<=a.tmps.size->oP cl l tm J=some (tm',J')->(∀a' w',After N w0 φ J J' tm' a K a' w'->Q .normal a' w')->wpOps P ops Q (List.range' s os.length) a w
 |[],[],s,tm,J,φ,a,w,_,_,hR,ht,hK,h,hQ=>by simp only[oP,aT,cQ]at h;obtain⟨rfl,rfl⟩:=h;exact hQ a w ⟨rfl,hK,φ,Ext.refl _ _,hR,ht,jp⟩
 |[],_::_,_,_,_,_,_,_,h,_,_,_,_,_,_=>by cases h
 |_::_,[],_,_,_,_,_,_,h,_,_,_,_,_,_=>by cases h
 |o::os,x::l,s,tm,J,φ,a,w,hi,ho,hR,ht,hK,h,hQ=>by
  unfold PY at hi;rw[af]at hi;obtain⟨hi1,hi2⟩:=hi;have hos:ops[s]?=some o:=by simpa using ho 0 o rfl
  have atJ:=hi1;unfold PW at atJ;simp only[af]at atJ;obtain⟨-,g2,-⟩:=atJ;obtain⟨d1,d2⟩:=Ij g2;unfold oP at h;split at h
  .next v1 σ1 hs=>
   split at h
   .next KQ Nz=>
    rw[bA,List.range'_succ,wpOps_cons];refine PX hcl hos hi1 hR ht hs λcv φ1 w1 e1 r1 v1' n1=>?_;have hput:RT φ1 KQ (a.put o.dst cv):=by rw[d1];exact(ht.ext e1 hR.old).put Nz v1' (λi hi=>by grind)
    refine MJ hcl os l (s+1) KQ σ1 φ1 _ w1 hi2 (λj o' hj=>by rw[show s+1+j=s+(j+1) by omega];simp_all) r1 hput (by grind[Jo]) h λa' w' hA=>hQ a' w' ?_;exact hA.trans (put_defers _ _ _) e1 n1
   .cases h
  .cases h
def YW[hPP:rJ P]{cl:Nat->List V->St->Option (V×St)}(hcl:Wj P cl){K id:Nat}{ops:Array Oper}{Q:Exit->Act->World->Prop}{l:List AO}(hi:PY P K ops ops.toList l=true)
  (hR:Rel N w0 φ J w) (ht:RT φ tm a) (hK:K<=a.tmps.size) (h:oP cl l tm J=some (tm',J')) (hQ:∀a' w',After N w0 φ J J' tm' a K a' w'->Q .normal a' w'):(Code.region id ops false).wp P Q a w:=by
 grind[Go.wp_region,Go.Proofs.Xe.MJ,Array.length_toList,List.range_eq_range']
end
def Dr.KR:Dr->List DO
 |.fin qs=>qs
 |.act qs x r=>qs++x::r.KR
def Et:Kd->Bool
 |.q|.n=>true
 |_=>false
def Eu(pt:List (List Nat)):Dr->Bool
 |.fin qs=>qs.all λy=>Et y.o.op.kind
 |.act qs x r=>(qs.all λy=>Et y.o.op.kind)&&(!Et x.o.op.kind&&(r.KR.all (λy=>(pt.getD y.i []).contains x.i)&&Eu pt r))
def aov(ops:Array Oper)(pt:List (List Nat))(i:Nat):Bool:=
 match ops[i]? with
 |some o=>(pt.getD i []).all (λp=>o.after.toList.any λe=>Region.binds .any e&&(Nat.beq e.on p||(pt.getD e.on []).contains p))&&o.after.toList.all (λe=>!Region.binds .any e||Nat.blt e.on i)
 |none=>false
def agl(P:Program)(K:Nat)(ops:Array Oper)(pt:List (List Nat))(ds:List Nat)(x:DO):Bool:=
 match ops[x.i]? with
 |some o=>PW P K ops o x.o&&(x.us.all (λu=>(pt.getD x.i []).contains u)&&(match x.o.dst with|some d=>ds.contains d|none=>true))
 |none=>false
def sU:List DO->Bool
 |[]=>true
 |x::l=>l.all (λy=>!Nat.beq x.i y.i&&(match x.o.dst,y.o.dst with|some d,some e=>!Nat.beq d e|_,_=>true))&&sU l
def ajm(P:Program)(K:Nat)(ops:Array Oper)(d:Dr)(pt:List (List Nat))(ds:List Nat):Bool:=
 d.KR.all (agl P K ops pt ds)&&(d.KR.all (λx=>x.os.all λt=>d.KR.all λy=>!(y.o.dst==some t)||(pt.getD y.i []).contains x.i))&&(sU d.KR&&(Eu pt d&&((List.range ops.size).all (λi=>aov ops pt i&&d.KR.any (λx=>Nat.beq x.i i)))))
section
variable {P:Program} {N:Nat} {w0 w w' : World} {φ φ' : Ph} {J J' : St} {tm tm' : Tr V} {a:Act} {v:V}
def ab4{op:xq}(hk:op.kind=.q)(hl:op.looks=false)(tm:Tr V)(J J':St):dA op tm J=dA op tm J':=by cases op<;>first|rfl|cases hl|cases hk
def PZ:∀{l:List DO},sU l=true->∀x∈l,∀y∈l,∀d,x.o.dst=some d->y.o.dst=some d->x=y
 |[],_,x,hx,_,_,_,_,_=>by cases hx
 |z::l,h,x,hx,y,hy,d,e,e'=>by
  unfold sU at h;rw[af,eA]at h;rcases bw.mp hx with rfl|hx'<;>rcases bw.mp hy with rfl|hy'
  .rfl
  .have:=h.1 y hy';rw[af]at this;rw[e,e']at this;simp at this
  .have:=h.1 x hx';rw[af]at this;rw[e,e']at this;simp at this
  .exact PZ h.2 x hx' y hy' d e e'
structure Lg(φ:Ph)(L:Nat->Prop)(dw bU:Tr V)(all:List DO)(res:List Rs)(a:Act):Prop where
 base:RT φ bU a
 got:∀r∈res,L r.i->∀d,r.d=some d->d<a.tmps.size/\RV φ r.v (a.tmps.getD d undef)
 old:∀t,(∀y∈all,y.o.dst=some t->¬L y.i)->RV φ (r8 dw t) (a.tmps.getD t undef)
def Wn(h:RT φ tm a){d:Option Nat}(hs:KI tm d v=some tm')(hv:∀i,d=some i->RV φ v (a.tmps.getD i undef)):RT φ tm' a:=by
 cases d with
 |none=>
  grind[KI]
 |some d=>
  simp only[KI]at hs
  intro t u ht
  rw[Tr.get_put _ _ _ _ _ t hs]at ht
  split at ht
  .grind
  .exact h t u ht
def Un{L:Nat->Prop}{dw bU:Tr V}{all:List DO}{res:List Rs}(h:Lg φ L dw bU all res a):∀(us:List Nat) (tm:Tr V),(∀u∈us,L u)->KJ bU res us=some tm->RT φ tm a
 |[],tm,_,e=>by simp only[KJ,aT]at e;subst e;exact h.base
 |u::us,tm,hu,e=>by
  unfold KJ at e;split at e
  .next KQ r h1 h2=>
   have hr:=List.find?_some h2;have hr:r.i=u:=aq hr;refine Wn (Un h us KQ (λx hx=>hu x (by simp[hx])) h1) e λi hi=>?_;exact(h.got r (List.mem_of_find?_eq_some h2) (by rw[hr];exact hu u kc) i hi).2
  .cases e
def YX{L:Nat->Prop}{dw bU:Tr V}{all:List DO}{res:List Rs}(h:Lg φ L dw bU all res a){us os:List Nat}{tm:Tr V}(hu:∀u∈us,L u)(ho:∀t∈os,∀y∈all,y.o.dst=some t->¬L y.i)(e:PE dw bU res us os=some tm):RT φ tm a:=by
 unfold PE at e;split at e
 .next KQ h1=>
  have h2:=Un h us KQ hu h1;clear h1;induction os generalizing tm with
  |nil=>
   grind[Hw]
  |cons t os ih=>
   unfold Hw at e
   split at e
   .next YV h3=>
    exact Wn (ih (λt ht=>ho t (by simp[ht])) h3) e λi hi=>by cases hi;exact h.old t (ho t kc)
   .cases e
 .cases e
def Uo{L:Nat->Prop}{dw bU:Tr V}{all:List DO}:∀{res:List Rs}{tm:Tr V},Lg φ L dw bU all res a->(∀r∈res,L r.i)->Nv bU res=some tm->RT φ tm a
 |[],tm,h,_,e=>by simp only[Nv,aT]at e;subst e;exact h.base
 |r::res,tm,h,hL,e=>by
  unfold Nv at e;split at e
  .next KQ h1=>
   exact Wn (Uo ⟨h.base,λx hx=>h.got x (by simp[hx]),h.old⟩ (λx hx=>hL x (by simp[hx])) h1) e λi hi=>(h.got r kc (hL r kc) i hi).2
  .cases e
def MN:∀{ds:List Nat}{tm bU:Tr V},CQ tm ds=some bU->(∀d∈ds,bU.get d=none)/\∀t,bU.get t=none\/bU.get t=tm.get t
 |[],tm,bU,e=>by grind[CQ]
 |d::ds,tm,bU,e=>by
  unfold CQ at e;split at e
  .next t1 h1=>
   obtain⟨p1,p2⟩:=MN h1;have hget:=λj=>Tr.get_put _ _ _ _ _ j e;refine⟨λx hx=>?_,λt=>?_⟩
   .rw[hget];rcases bw.mp hx with rfl|hx
    .rw[ab rfl]
    .split
     .rfl
     .exact p1 x hx
   .rw[hget];split
    .exact .inl rfl
    .exact p2 t
  .cases e
def Rel.name(h:Rel N w0 φ J w){k:Bk}{b:Nat}(hn:J.new k=some (b,J')):Rel N w0 φ J' w:=by
 obtain⟨rfl,hnx,hget⟩:=yM hn;have hno:=(h.aj J.aj jp).1;refine⟨h.n0,h.bel,λi j pi pj hi hj e hNi li lj=>?_,h.lo,λi k' pi hi hpi hlt=>?_,λi k' pi hi hpi=>?_,λi hi=>?_⟩
 .have ei:i≠J.aj:=λe=>by grind
  have ej:j≠J.aj:=λe=>by grind
  rw[hget,ae ei]at li;rw[hget,ae ej]at lj;exact h.inj i j pi pj hi hj e hNi li lj
 .have ei:i≠J.aj:=λe=>by grind
  rw[hget,ae ei]at hi;exact h.fz i k' pi hi hpi hlt
 .have ei:i≠J.aj:=λe=>by grind
  rw[hget,ae ei]at hi;exact h.blk i k' pi hi hpi
 .rw[hnx]at hi;rw[hget,ae jb];exact h.aj i jb
structure Wp(P:Program)(K:Nat)(ops:Array Oper)(pt:List (List Nat))(all:List DO)(dw bU:Tr V)(res:List Rs)(p:jf):Prop where
 op:∃o us os,ops[p.i]?=some o/\PW P K ops o p.o=true/\(∀u∈us,(pt.getD p.i []).contains u=true)/\(∀t∈os,∀y∈all,y.o.dst=some t->(pt.getD y.i []).contains p.i=true)/\
  ∃res',(∀r∈res',r∈res)/\PE dw bU res' us os=some p.tm
 res:⟨p.i,p.o.dst,p.v⟩∈res
 gt:gate p.o.g p.tm=some p.gt
 no:p.gt=false->p.v=.tnil
 q:p.o.op.kind=.q->p.o.op.looks=false->p.gt=true->∀J,dA p.o.op p.tm J=some p.v
 k:Et p.o.op.kind=true
 n:p.o.op.kind=.n->p.gt=true->∃l vf b,oO p.o.op p.tm=some (l,vf)/\p.nm=some b/\p.v=vf b
structure Names(φ:Ph)(L:Nat->Prop)(J:St)(pd:List jf):Prop where
 lt:∀p∈pd,∀b,p.nm=some b->b<J.aj
 free:∀p∈pd,∀b,p.nm=some b->¬L p.i->φ b=none
 apart:∀p∈pd,∀p'∈pd,∀b,p.nm=some b->p'.nm=some b->p.i=p'.i
def Ur{K:Nat}{ops:Array Oper}{pt:List (List Nat)}{ds:List Nat}{all:List DO}{dw bU:Tr V}{L:Nat->Prop}{m:Nat}:∀(qs:List DO) (J:St) (res:List Rs) (pd:List jf) (J':St) (res':List Rs) (pd':List jf),zV dw bU qs J res pd=some (J',res',pd')->
  (∀x∈qs,agl P K ops pt ds x=true)->(∀x∈qs,∀t∈x.os,∀y∈all,y.o.dst=some t->(pt.getD y.i []).contains x.i=true)->(∀x∈qs,¬L x.i)->Rel N w0 φ J w->(∀p∈pd,Wp P K ops pt all dw bU res p)->Names φ L J pd->m<=J.aj->(∀p∈pd,∀b,p.nm=some b->m<=b)->
  Rel N w0 φ J' w/\(∀p∈pd',Wp P K ops pt all dw bU res' p)/\Names φ L J' pd'/\J.aj<=J'.aj/\(∀r,r∈res'↔r∈res\/∃x∈qs,∃v,r=⟨x.i,x.o.dst,v⟩/\r∈res')/\(∀i,(∃p∈pd',p.i=i)↔(∃p∈pd,p.i=i)\/∃x∈qs,x.i=i)/\(∀p∈pd',∀b,p.nm=some b->m<=b)
 |[],J,res,pd,J',res',pd',h,hd,hos,hL,hR,hP,hN,hm,hb=>by grind[zV]
 |x::qs,J,res,pd,J',res',pd',h,hd,hos,hL,hR,hP,hN,hm,hb=>by
  have hx:=hd x kc;unfold agl at hx;unfold zV at h;split at h
  .next tm Nz=>
   split at hx
   .next o ho=>
    simp only[af,eA]at hx;obtain⟨x1,x2,x3⟩:=hx;have step:∀(v:V) (gt:Bool) (nm:Option Nat) (σ1:St),Rel N w0 φ σ1 w->J.aj<=σ1.aj->gate x.o.g tm=some gt->(gt=false->v=.tnil)->(x.o.op.kind=.q->x.o.op.looks=false->gt=true->∀J,dA x.o.op tm J=some v)->Et x.o.op.kind=true->
      (x.o.op.kind=.n->gt=true->∃l vf b,oO x.o.op tm=some (l,vf)/\nm=some b/\v=vf b)->(∀b,nm=some b->b=J.aj/\b<σ1.aj)->
      zV dw bU qs σ1 (⟨x.i,x.o.dst,v⟩::res) (⟨x.i,x.o,tm,v,gt,nm⟩::pd)=some (J',res',pd')->
      Rel N w0 φ J' w/\(∀p∈pd',Wp P K ops pt all dw bU res' p)/\Names φ L J' pd'/\J.aj<=J'.aj/\(∀r,r∈res'↔r∈res\/∃y∈x::qs,∃v,r=⟨y.i,y.o.dst,v⟩/\r∈res')/\(∀i,(∃p∈pd',p.i=i)↔(∃p∈pd,p.i=i)\/∃y∈x::qs,y.i=i)/\(∀p∈pd',∀b,p.nm=some b->m<=b):=by
     intro v gt nm σ1 hR1 hle hgt hno hq hk hn hnm hrun
     obtain⟨r1,r2,r3,r4,r5,r6,r7⟩:=Ur (m:=m) qs σ1 _ _ J' res' pd' hrun (λy hy=>hd y (by simp[hy])) (λy hy=>hos y (by simp[hy])) (λy hy=>hL y (by simp[hy])) hR1 (λp hp=>by
       rcases bw.mp hp with rfl|hp
       .exact⟨⟨o,x.us,x.os,ho,x1,x2,λt ht y hy e=>hos x kc t ht y hy e,res,λr hr=>by simp[hr],Nz⟩,by simp,hgt,hno,hq,hk,hn⟩
       .obtain⟨⟨o',us',os',q1,q2,q3,q6,res2,q4,q5⟩,p2,p3,p4,p5,p6,p7⟩:=hP p hp;exact⟨⟨o',us',os',q1,q2,q3,q6,res2,λr hr=>by grind,q5⟩,by simp[p2],p3,p4,p5,p6,p7⟩) ⟨λp hp b hb=>by
       rcases bw.mp hp with rfl|hp
       .grind
       .exact aE (hN.lt p hp b hb) hle,λp hp b hb hl=>by
       rcases bw.mp hp with rfl|hp
       .rw[(hnm b hb).1];exact(hR.aj _ jp).1
       .exact hN.free p hp b hb hl,λp hp p' hp' b hb hb'=>by
       rcases bw.mp hp with rfl|hp<;>rcases bw.mp hp' with rfl|hp'
       .rfl
       .exfalso;have:=hN.lt p' hp' b hb';rw[(hnm b hb).1]at this;omega
       .exfalso;have:=hN.lt p hp b hb;rw[(hnm b hb').1]at this;omega
       .exact hN.apart p hp p' hp' b hb hb'⟩ jb (λp hp b hb'=>by
       rcases bw.mp hp with rfl|hp
       .rw[(hnm b hb').1];exact hm
       .exact hb p hp b hb')
     refine⟨r1,r2,r3,jb,λr=>?_,λi=>?_,r7⟩
     .constructor
      .intro h0
       rcases(r5 r).mp h0 with h|⟨y,hy,u,e1,e2⟩
       .rcases bw.mp h with e|h
        .exact .inr ⟨x,by simp,v,e,h0⟩
        .exact .inl h
       .exact .inr ⟨y,by simp[hy],u,e1,e2⟩
      .rintro(h|⟨y,hy,u,e1,e2⟩)
       .exact(r5 r).mpr (.inl (by simp[h]))
       .exact e2
     .rw[r6 i]
      constructor
      .rintro(⟨p,hp,e⟩|⟨y,hy,e⟩)
       .rcases bw.mp hp with rfl|hp
        .exact .inr ⟨x,by simp,e⟩
        .exact .inl ⟨p,hp,e⟩
       .exact .inr ⟨y,by simp[hy],e⟩
      .rintro(⟨p,hp,e⟩|⟨y,hy,e⟩)
       .exact .inl ⟨p,by simp[hp],e⟩
       .rcases bw.mp hy with rfl|hy
        .exact .inl ⟨_,List.mem_cons_self,e⟩
        .exact .inr ⟨y,hy,e⟩
    split at h
    .next hg=>
     split at h
     .next hk=>
      split at h
      .next v hv=>
       exact step v true none J hR jp hg (λe=>by cases e) (λ_ hl _ σ2=>by rw[ab4 hk hl tm σ2 J];exact hv) (by rw[hk];rfl) (λe=>by rw[hk]at e;cases e) (λb hb=>by cases hb) h
      .cases h
     .next hk=>
      split at h
      .next c vf hc=>
       split at h
       .next b σ1 hnew=>
        obtain⟨hb',hnx,-⟩:=yM hnew;subst hb';exact step _ true (some J.aj) σ1 (hR.name hnew) jb hg (λe=>by cases e) (λe=>by rw[hk]at e;cases e) (by rw[hk];rfl) (λ_ _=>⟨c,vf,J.aj,hc,rfl,rfl⟩) (λb hb=>by cases hb;exact⟨rfl,jb⟩) h
       .cases h
      .cases h
     .cases h
    .next hg=>
     split at h
     .next hk=>exact step _ false none J hR jp hg (λ_=>rfl) (λ_ _ e=>by cases e) (by rw[hk];rfl) (λe=>by rw[hk]at e;cases e) (λb hb=>by cases hb) h
     .next hk=>exact step _ false none J hR jp hg (λ_=>rfl) (λ_ _ e=>by cases e) (by rw[hk];rfl) (λ_ e=>by cases e) (λb hb=>by cases hb) h
     .cases h
    .cases h
   grind
  .cases h
end
end Go.Proofs.Xe
