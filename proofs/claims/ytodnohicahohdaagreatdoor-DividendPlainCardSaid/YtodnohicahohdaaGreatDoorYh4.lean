import Derived.Test.YtodnohicahohdaaGreatDoorYh3
set_option linter.all false
namespace Go.Proofs.Xe
open Go.RowKit Go.Proofs.Ins
abbrev Ph:=Nat->Option (Nat×Nat)
def ai9(C o n K:Nat):Cap->Prop
 |.ex k=>K=k
 |.opn=>o=0/\K=C
 |.any=>True
def RB(φ:Ph):B->Value->Prop
 |.int k n,v=>v=.int k n
 |.bool b,v=>v=.bool b
 |.str s,v=>v=.string s
 |.nat n,v=>v=.string (bn n)
 |.ptr b o,v=>∃p,φ b=some p/\v=.pointer (some ⟨p.1,o,none⟩)
 |.VZ,v=>v=.pointer none
 |.sl b o n c,v=>(∃p K,φ b=some p/\v=.slice (some ⟨p.1,o,none⟩) n K/\n<=K/\K<=9223372036854775807/\ai9 p.2 o n K c)\/(n=0/\c=.any/\∃a K,v=.slice (some a) 0 K/\K<=9223372036854775807)
 |.aQ,v=>v=.slice none 0 0
 |.mp b,v=>∃p,φ b=some p/\v=.map (some p.1)
 |.any,v=>v.oneCell'=true
def lX(φ:Ph):List B->List Value->Prop
 |[],[]=>True
 |x::l,v::r=>RB φ x v/\lX φ l r
 |_,_=>False
def RV(φ:Ph):V->Value->Prop
 |.c x,v=>RB φ x v
 |.agg l,v=>∃r,v=.agg r/\lX φ l r.toList
 |.fn f caps,v=>∃r,v=.func (.func f) #[] r/\lX φ caps r.toList
 |.Pq,v=>v=.nilFunc
 |.tnil,v=>v=.tuple #[]
 |.aU a r,v=>∃x xs,v=.tuple (x::xs).toArray/\RV φ a x/\RV φ r (.tuple xs.toArray)
 |.und,_=>True
def BA(φ:Ph):List V->List Value->Prop
 |[],[]=>True
 |x::l,v::r=>RV φ x v/\BA φ l r
 |_,_=>False
def Ext(n:Nat)(φ φ':Ph):Prop:=∀b,b<n->φ' b=φ b
def ax3(φ:Ph)(k:Bk)(p:Nat×Nat)(w:World):Prop:=
 ∃cs T,w.heap[p.1]?=some (.cells cs T (0,0))/\lX φ k.cells (cs.toList.take k.cells.length)/\k.cells.length<=cs.size/\
  ∀e t,k.opn=some (e,t)->T=t/\cs.size=p.2*e/\p.2<=maxLen
def ax4(k:Bk)(p:Nat×Nat)(w:World):Prop:=∃l,k.cells=DC l/\Dy w p.1 l
def aBy(φ:Ph)(k:Bk)(p:Nat×Nat)(w:World):Prop:=∀j x,k.cells[j]?=some x->x.kn=true->∃v,w.cell? ⟨p.1,j,none⟩=some v/\RB φ x v
def KL(φ:Ph)(k:Bk)(p:Nat×Nat)(w:World):Prop:=(k.pl=true/\ax3 φ k p w)\/(k.pl=false/\k.rd=false/\ax4 k p w)\/(k.pl=false/\k.rd=true/\aBy φ k p w)
def KL.plain{φ:Ph}{k:Bk}{p:Nat×Nat}{w:World}(h:KL φ k p w)(hk:k.pl=true):ax3 φ k p w:=by
 rcases h with h|h|h
 .exact h.2
 .grind
 grind
def KL.map{φ:Ph}{k:Bk}{p:Nat×Nat}{w:World}(h:KL φ k p w)(hk:k.rd=false):ax4 k p w:=by
 rcases h with⟨h,_⟩|h|h
 .grind[Bk.pl,Bk.rd]
 .grind
 grind
def aod{c:List B}:(⟨c,none⟩:Bk).pl=true:=rfl
def F5{c:List B}{e t:Nat}(h:0<e):(⟨c,some (e,t)⟩:Bk).pl=true:=by
 cases e with
 |zero=>omega
 |succ e=>rfl
def aja{c:List B}{t:Nat}:(⟨c,some (0,t)⟩:Bk).pl=false:=rfl
def PG{c:List B}:(⟨c,some (0,0)⟩:Bk).rd=false:=rfl
structure Rel(N:Nat)(w0:World)(φ:Ph)(J:St)(w:World):Prop where
 n0:N<=w0.heap.size
 bel:Below N w0 w
 inj:∀b b' p p',φ b=some p->φ b'=some p'->p.1=p'.1->N<=p.1->(J.h.get b).isSome=true->(J.h.get b').isSome=true->b=b'
 lo:∀b p,φ b=some p->p.1<w.heap.size
 fz:∀b k p,J.h.get b=some k->φ b=some p->p.1<N->k.pl=false/\k.rd=true
 blk:∀b k p,J.h.get b=some k->φ b=some p->KL φ k p w
 aj:∀b,J.aj<=b->φ b=none/\J.h.get b=none
def RT(φ:Ph)(tm:Tr V)(a:Act):Prop:=∀t v,tm.get t=some v->RV φ v (a.tmps.getD t undef)
def Old(n:Nat)(φ:Ph):Prop:=∀b,n<=b->φ b=none
def Rel.old{N:Nat}{w0 w:World}{φ:Ph}{J:St}(h:Rel N w0 φ J w):Old J.aj φ:=λb hb=>(h.aj b hb).1
def Ext.some{n:Nat}{φ φ':Ph}(h:Ext n φ φ')(ho:Old n φ){b:Nat}{p:Nat×Nat}(hb:φ b=some p):φ' b=some p:=by
 by_cases hlt:b<n
 .rw[h b hlt];exact hb
 .rw[ho b jb]at hb;cases hb
theorem RB.ext{n:Nat}{φ φ':Ph}(h:Ext n φ φ')(ho:Old n φ){x:B}{v:Value}(hv:RB φ x v):RB φ' x v:=by
 cases x<;>simp only[RB]at hv⊢ <;>try exact hv
 case ptr b o=>obtain⟨p,hp,e⟩:=hv;exact⟨p,h.some ho hp,e⟩
 case sl b o n c=>
  rcases hv with⟨p,K,hp,e,r⟩|hv
  .exact .inl ⟨p,K,h.some ho hp,e,r⟩
  grind
 case mp b=>obtain⟨p,hp,e⟩:=hv;exact⟨p,h.some ho hp,e⟩
theorem lX.ext{n:Nat}{φ φ':Ph}(h:Ext n φ φ')(ho:Old n φ):∀{l:List B}{r:List Value},lX φ l r->lX φ' l r
 |[],[],_=>trivial
 |_::_,_::_,hv=>⟨hv.1.ext h ho,lX.ext h ho hv.2⟩
 |[],_::_,hv=>hv.elim
 |_::_,[],hv=>hv.elim
theorem RV.ext{n:Nat}{φ φ':Ph}(h:Ext n φ φ')(ho:Old n φ):∀{x:V}{v:Value},RV φ x v->RV φ' x v
 |.c _,_,hv=>RB.ext h ho hv
 |.agg _,_,⟨r,e,hr⟩=>⟨r,e,hr.ext h ho⟩
 |.fn _ _,_,⟨r,e,hr⟩=>⟨r,e,hr.ext h ho⟩
 |.Pq,_,hv=>hv
 |.tnil,_,hv=>hv
 |.aU _ _,_,⟨x,xs,e,h1,h2⟩=>⟨x,xs,e,h1.ext h ho,h2.ext h ho⟩
 |.und,_,_=>trivial
theorem RT.ext{n:Nat}{φ φ':Ph}(h:Ext n φ φ')(ho:Old n φ){tm:Tr V}{a:Act}(hv:RT φ tm a):RT φ' tm a:=λt v ht=>(hv t v ht).ext h ho
theorem Ext.refl(n:Nat)(φ:Ph):Ext n φ φ:=λ_ _=>rfl
def Ext.trans{n m:Nat}{φ φ' φ'':Ph}(h:Ext n φ φ')(h':Ext m φ' φ'')(hnm:n<=m):Ext n φ φ'':=λb hb=>(h' b jb).trans (h b hb)
def lX.length{φ:Ph}:∀{l:List B}{r:List Value},lX φ l r->l.length=r.length
 |[],[],_=>rfl
 |_::_,_::_,hv=>by simp[lX.length hv.2]
 |[],_::_,hv=>hv.elim
 |_::_,[],hv=>hv.elim
def lX.drop{φ:Ph}:∀(n:Nat){l:List B}{r:List Value},lX φ l r->lX φ (l.drop n) (r.drop n)
 |0,_,_,h=>h
 |n+1,[],[],_=>trivial
 |n+1,_::_,_::_,hv=>lX.drop n hv.2
 |_+1,[],_::_,hv=>hv.elim
 |_+1,_::_,[],hv=>hv.elim
def lX.take{φ:Ph}:∀(n:Nat){l:List B}{r:List Value},lX φ l r->lX φ (l.take n) (r.take n)
 |0,_,_,h=>by simp[lX]
 |n+1,[],[],_=>trivial
 |n+1,_::_,_::_,hv=>⟨hv.1,lX.take n hv.2⟩
 |_+1,[],_::_,hv=>hv.elim
 |_+1,_::_,[],hv=>hv.elim
def lX.append{φ:Ph}:∀{l:List B}{r:List Value}{l':List B}{r':List Value},lX φ l r->lX φ l' r'->lX φ (l++l') (r++r')
 |[],[],_,_,_,h=>h
 |_::_,_::_,_,_,hv,h=>⟨hv.1,lX.append hv.2 h⟩
 |[],_::_,_,_,hv,_=>hv.elim
 |_::_,[],_,_,hv,_=>hv.elim
def lX.get{φ:Ph}:∀{l:List B}{r:List Value}(j:Nat) (x:B),lX φ l r->l[j]?=some x->∃v,r[j]?=some v/\RB φ x v
 |_::_,v::_,0,_,hv,h=>by cases h;exact⟨v,rfl,hv.1⟩
 |_::l,_::r,j+1,x,hv,h=>lX.get (l:=l) (r:=r) j x hv.2 kd
 |[],_,_,_,_,h=>by simp at h
 |_::_,[],_,_,hv,_=>hv.elim
def lX.oneCell{φ:Ph}:∀{l:List B}{r:List Value},lX φ l r->∀v∈r,v.oneCell'=true
 |[],[],_,_,h=>by cases h
 |x::l,v::r,hv,u,h=>by
  rcases bw.mp h with rfl|h
  .have:=hv.1;cases x<;>simp only[RB]at this
   case ptr=>obtain⟨p,-,e⟩:=this;rw[e];rfl
   case sl=>rcases this with⟨p,K,-,e,-⟩|⟨-,-,p,K,e,-⟩<;>(rw[e];rfl)
   case mp=>obtain⟨p,-,e⟩:=this;rw[e];rfl
   case any=>exact this
   all_goals(rw[this];rfl)
  .exact lX.oneCell hv.2 u h
 |[],_::_,hv,_,_=>hv.elim
 |_::_,[],hv,_,_=>hv.elim
def RV.cells{φ:Ph}{x:V}{v:Value}{l:List B}(h:RV φ x v)(hl:x.cells=some l):lX φ l v.cells.toList:=by
 cases x<;>simp only[V.cells,aT,reduceCtorEq]at hl
 case c b=>
  subst hl;have h1:RB φ b v:=h;have hc:v.cells= #[v]:=by
   cases b<;>simp only[RB]at h1
   case ptr=>obtain⟨p,-,e⟩:=h1;rw[e];rfl
   case sl=>rcases h1 with⟨p,K,-,e,-⟩|⟨-,-,p,K,e,-⟩<;>(rw[e];rfl)
   case mp=>obtain⟨p,-,e⟩:=h1;rw[e];rfl
   case any=>cases v<;>first|rfl|grind[Value.oneCell']
   all_goals(rw[h1];rfl)
  rw[hc];exact⟨h1,trivial⟩
 case agg l'=>
  subst hl;obtain⟨r,e,hr⟩:=h;rw[e];exact hr
def V9{φ:Ph}:∀(o:Nat) (l vs l':List B) (r rs:List Value),yc l o vs=some l'->lX φ l r->lX φ vs rs->o+vs.length<=l.length/\lX φ l' (r.take o++rs++r.drop (o+rs.length))
 |0,l,vs,l',r,rs,h,hl,hv=>by
  unfold yc at h;cases hb:Nat.ble vs.length l.length with
  |false=>grind
  |true=>
   rw[hb]at h
   cases h
   have:=hl.drop vs.length
   rw[hv.length]at this
   exact⟨by simp_all,by simpa using hv.append (by rw[hv.length];exact this)⟩
 |o+1,[],vs,l',r,rs,h,hl,hv=>by cases h
 |o+1,x::l,vs,l',[],rs,h,hl,hv=>hl.elim
 |o+1,x::l,vs,l',v::r,rs,h,hl,hv=>by
  unfold yc at h;cases hw:yc l o vs with
  |none=>grind
  |some l2=>
   rw[hw]at h
   cases h
   obtain⟨h1,h2⟩:=V9 o l vs l2 r rs hw hl.2 hv
   refine⟨by grind,?_⟩
   rw[show o+1+rs.length=(o+rs.length)+1 by omega]
   exact⟨hl.1,h2⟩
def RV.tm{φ:Ph}{tm:Tr V}{a:Act}(h:RT φ tm a)(i:Nat):RV φ (r8 tm i) (a.tmps.getD i undef):=by
 unfold r8;cases ht:tm.get i with
 |none=>trivial
 |some v=>exact h i v ht
section
variable {N:Nat} {w0 w:World} {φ:Ph} {J:St}
def Rel.hi(h:Rel N w0 φ J w){b:Nat}{k:Bk}{p:Nat×Nat}(hk:J.h.get b=some k)(hp:φ b=some p)(hr:k.pl=true\/k.rd=false):N<=p.1:=by
 rcases dE p.1 N with hlt|hge
 .obtain⟨a,c⟩:=h.fz b k p hk hp hlt;grind
 omega
def Rel.read(h:Rel N w0 φ J w){b:Nat}{k:Bk}{p:Nat×Nat}(hk:J.h.get b=some k)(hrd:k.rd=true)(hp:φ b=some p){j:Nat}{x:B}(hx:k.cells[j]?=some x)(hkn:x.kn=true):
  ∃v,w.cell? ⟨p.1,j,none⟩=some v/\RB φ x v:=by
 rcases h.blk b k p hk hp with⟨_,cs,T,hc,hr,hl,-⟩|h2|h2
 .obtain⟨v,hv,hR⟩:=hr.get j x hx
  grind[Go.cell_of_row]
 .grind
 .exact h2.2.2 j x hx hkn
def Rel.drew(h:Rel N w0 φ J w):Rel N w0 φ J w.drew:=
 ⟨h.n0,h.bel.drew,h.inj,h.lo,h.fz,h.blk,h.aj⟩
def Rel.drawn(h:Rel N w0 φ J w):Rel N w0 φ J { w with drawn:=w.drawn+1 }:=h.drew
theorem Rel.size(h:Rel N w0 φ J w):N<=w.heap.size:=ar h.n0 h.bel.size
end
def kB:Value->B->Bool
 |.int k n,.int j m=>decide (k=j)&&decide (n=m)
 |.bool a,.bool b=>a==b
 |.string s,.str t=>decide (s=t)
 |.pointer none,.VZ=>true
 |.slice none 0 0,.aQ=>true
 |_,_=>false
def kBs:List Value->List B->Bool
 |[],[]=>true
 |v::r,x::l=>kB v x&&kBs r l
 |_,_=>false
def kV:Value->V->Bool
 |.agg r,.agg l=>kBs r.toList l
 |.nilFunc,.Pq=>true
 |v,.c x=>kB v x
 |_,_=>false
def wQ:Operand->O->Bool
 |.tmp t,.t i=>Nat.beq t i
 |.const v,.k x=>kV v x
 |.func f,.k (.fn g [])=>Nat.beq f g
 |_,_=>false
def abZ:List Operand->List O->Bool
 |[],[]=>true
 |x::l,y::r=>wQ x y&&abZ l r
 |_,_=>false
def asq{φ:Ph}{v:Value}{x:B}(h:kB v x=true):RB φ x v:=by unfold kB at h;grind[RB]
theorem Ob{φ:Ph}:∀{r:List Value}{l:List B},kBs r l=true->lX φ l r
 |[],[],_=>trivial
 |_::_,_::_,h=>by unfold kBs at h;rw[af]at h;exact⟨asq h.1,Ob h.2⟩
 |[],_::_,h=>by cases h
 |_::_,[],h=>by cases h
def ax5{φ:Ph}{v:Value}{x:V}(h:kV v x=true):RV φ x v:=by
 unfold kV at h;split at h
 .exact⟨_,rfl,Ob h⟩
 .rfl
 .exact asq h
 .cases h
def bW{φ:Ph}{tm:Tr V}{a:Act}{x:Operand}{y:O}(h:wQ x y=true)(ht:RT φ tm a):RV φ (y.ev tm) (a.eval x):=by
 unfold wQ at h;split at h
 .next t i=>
  have:t=i:=aq h;subst this;exact RV.tm ht t
 .exact ax5 h
 .next f g=>
  have:f=g:=aq h;subst this;exact⟨#[],rfl,trivial⟩
 .cases h
def YK{φ:Ph}{tm:Tr V}{a:Act}(ht:RT φ tm a):∀{l:List Operand}{r:List O},abZ l r=true->BA φ (r.map (·.ev tm)) (l.map a.eval)
 |[],[],_=>trivial
 |_::_,_::_,h=>by unfold abZ at h;rw[af]at h;exact⟨bW h.1 ht,YK ht h.2⟩
 |[],_::_,h=>by cases h
 |_::_,[],h=>by cases h
def PI:Option Operand->Option O->Bool
 |none,none=>true
 |some x,some y=>wQ x y
 |_,_=>false
def ax6:TypeDesc->Bool
 |.struct _|.array _ _=>true
 |_=>false
def agi(P:Program)(t:TypeId)(n:Nat)(g:Bool):Bool:=
 match P.info? t,P.underlying t with
 |some i,some d=>Nat.beq i.size n&&(ax6 d==g)&&(g||Nat.beq n 1)
 |_,_=>false
def Uk{P:Program}{t:TypeId}{n:Nat}{g:Bool}(h:agi P t n g=true)(w:World):
  (sizeOf t).run P w=.ok n w/\(isAgg t).run P w=.ok g w/\(g=true\/n=1):=by
 unfold agi at h
 split at h
 .next i d hi hd=>
  simp only[af,Bool.or_eq_true]at h
  obtain⟨⟨h1,h2⟩,h3⟩:=h
  have h1:=aq h1
  have h2:=eq_of_beq h2
  refine⟨by simp_all[sizeOf,typeInfo],?_,h3.imp id aq⟩
  simp only[isAgg,Sem.run_bind,run_underlying hd,Result.andThen_ok]
  rw[<-h2]
  cases d<;>rfl
 .cases h
def Wh(P:Program)(t:TypeId)(n:Nat):Bool:=match P.info? t with|some i=>Nat.beq i.size n|none=>false
def BD{P:Program}{t:TypeId}{n:Nat}(h:Wh P t n=true)(w:World):(sizeOf t).run P w=.ok n w:=by
 unfold Wh at h;split at h
 .simp_all[sizeOf,typeInfo]
 .cases h
section
variable {P:Program} {N:Nat} {w0 w:World} {φ:Ph} {J:St} {tm:Tr V} {a:Act}
def Rel.reads(hR:Rel N w0 φ J w){b:Nat}{k:Bk}{p:Nat×Nat}(hk:J.h.get b=some k)(hrd:k.rd=true)(hp:φ b=some p):∀(r:List B) (o:Nat),(∀j x,r[j]?=some x->k.cells[o+j]?=some x)->r.all B.kn=true->
  ∃xs,lX φ r xs/\∀j u,xs[j]?=some u->w.cell? ⟨p.1,o+j,none⟩=some u
 |[],o,_,_=>⟨[],trivial,λj u h=>by simp at h⟩
 |x::r,o,h,ha=>by rw[cw,af]at ha;obtain⟨v,hv,hb⟩:=hR.read hk hrd hp (h 0 x rfl) ha.1;obtain⟨xs,h1,h2⟩:=Rel.reads hR hk hrd hp r (o+1) (λj y hy=>by have:=h (j+1) y kd;grind) ha.2;refine⟨v::xs,⟨hb,h1⟩,λj u hu=>?_⟩;grind
def AL{l:List B}{o n j:Nat}{x:B}(h:((l.drop o).take n)[j]?=some x):l[o+j]?=some x:=by grind
def Ji(hR:Rel N w0 φ J w){t:TypeId}{n:Nat}{g:Bool}(ht:agi P t n g=true){b o:Nat}{k:Bk}{p:Nat×Nat}{v:V}(hk:J.h.get b=some k)(hrd:k.rd=true)(hp:φ b=some p)
  (h:zT k.cells o n g=some v):∃cv,(loadVar t ⟨p.1,o,none⟩).run P w=.ok cv w/\RV φ v cv:=by
 obtain⟨h1,h2,h3⟩:=Uk ht w
 unfold zT at h
 cases g with
 |true=>
  simp only at h
  cases hb:(Nat.beq ((k.cells.drop o).take n).length n&&((k.cells.drop o).take n).all B.kn)with
  |false=>grind
  |true=>
   rw[hb]at h
   cases h
   rw[af]at hb
   have hb1:=aq hb.1
   obtain⟨xs,hx,hxs⟩:=hR.reads hk hrd hp ((k.cells.drop o).take n) o (λj x hj=>AL hj) hb.2
   have h4:=run_loadCells_list (P:=P) w ⟨p.1,o,none⟩ xs λj u hu=>by grind[Addr.add_lit]
   rw[<-hx.length,hb1]at h4
   refine⟨_,?_,xs.toArray,rfl,hx⟩
   grind[loadVar,Sem.run_bind,Result.andThen_ok,Sem.run_pure]
 |false=>
  have hn:n=1:=h3.resolve_left kc
  subst hn
  simp only at h
  cases hx:k.cells.drop o with
  |nil=>grind
  |cons x t=>
   rw[hx]at h
   cases hkn:x.kn with
   |false=>grind
   |true=>
    simp only[hkn,bB,aT]at h
    subst h
    have h0:k.cells[o]?=some x:=by
     have:(k.cells.drop o)[0]?=some x:=by grind
     grind
    obtain⟨u,hu,hb⟩:=hR.read hk hrd hp h0 hkn
    refine⟨u,?_,hb⟩
    grind[loadVar,Sem.run_bind,Result.andThen_ok,run_load]
def aoe{l:List B}{r:List Value}{o n:Nat}{g:Bool}{v:V}(h:zT l o n g=some v)(hg:g=true\/n=1)(hr:lX φ l r):
  ∃xs,xs.length=n/\(∀j u,xs[j]?=some u->r[o+j]?=some u)/\(g=true->RV φ v (.agg xs.toArray))/\(g=false->∃u,xs=[u]/\RV φ v u):=by
 have hd:=(hr.drop o).take n
 unfold zT at h
 cases g with
 |true=>
  simp only at h
  cases hb:(Nat.beq ((l.drop o).take n).length n&&((l.drop o).take n).all B.kn)with
  |false=>grind
  |true=>
   rw[hb]at h
   cases h
   rw[af]at hb
   have hb:=aq hb.1
   refine⟨_,by rw[<-hd.length];exact hb,λj u hu=>?_,λ_=>⟨_,rfl,jb⟩,λh=>by cases h⟩
   grind
 |false=>
  have hn:n=1:=hg.resolve_left kc
  subst hn
  simp only at h
  have hd0:=hr.drop o
  cases hx:l.drop o with
  |nil=>grind
  |cons x t=>
   rw[hx]at h hd0
   cases hkn:x.kn with
   |false=>grind
   |true=>
    simp only[hkn,bB,aT]at h
    subst h
    cases hy:r.drop o with
    |nil=>rw[hy]at hd0;exact hd0.elim
    |cons u t'=>
     rw[hy]at hd0
     refine⟨[u],rfl,λj u' hu=>?_,(λh=>by cases h),λ_=>⟨u,rfl,hd0.1⟩⟩
     grind
end
def aBz:Operand->Bool
 |.const (.slice none 0 0)|.const (.pointer none)|.const .nilFunc=>true
 |_=>false
def Jj(pl:Nat->Option (Nat×Nat)):List (Nat×Operand)->List (Nat×Nat×O)->Bool
 |[],[]=>true
 |(i,x)::r,(o,n,y)::s=>(match pl i with|some (p,q)=>Nat.beq p o&&Nat.beq q n|none=>false)&&wQ x y&&Jj pl r s
 |_,_=>false
def placesOf(P:Program):List Field->Option (List (Nat×Nat))
 |[]=>some []
 |f::r=>match P.info? f.type,placesOf P r with|some i,some l=>some ((f.offset,i.size)::l)|_,_=>none
def aeb(P:Program)(t:TypeId):Bool:=
 match P.underlying t with
 |some (.struct fs)=>(match fs.toList with
  |[f,g,h]=>f.name != "_" &&g.name != "_" &&h.name != "_" &&Nat.beq f.offset 0&&Nat.beq g.offset 1&&Nat.beq h.offset 2&&
   (match P.underlying f.type,P.underlying g.type,P.underlying h.type with|some .bool,some .string,some .string=>true|_,_,_=>false)&& !P.stoodInHeld t&& !P.eqGuardType P.depth t
  |_=>false)
 |_=>false
def YL(P:Program)(t:TypeId):Bool:=
 match P.underlying t with
 |some (.struct fs)=>(match fs.toList with
  |[f,g]=>f.name != "_" &&g.name != "_" &&Nat.beq f.offset 0&&Nat.beq g.offset 1&&
   (match P.underlying f.type,P.underlying g.type with|some (.int _),some (.int _)=>true|_,_=>false)&& !P.stoodInHeld t&& !P.eqGuardType P.depth t
  |_=>false)
 |_=>false
def F6(P:Program)(s:TypeId)(f:Nat):Option Field:=
 match P.underlying s with
 |some (.struct fs)=>fs[f]?
 |_=>none
def YM(P:Program)(t:TypeId):Bool:=match P.underlying t with|some .string=>true|_=>false
def BF{P:Program}{t:TypeId}(h:YM P t=true):P.underlying t=some .string:=by unfold YM at h;split at h<;>first|assumption|cases h
def jo(P:Program)(op:Op):xq->Bool
 |.MH y=>(match op with|.move x|.assign x=>wQ x y|_=>false)
 |.pick c' a' b'=>(match op with|.pick c a b=>wQ c c'&&wQ a a'&&wQ b b'|_=>false)
 |.load n g y=>(match op with|.load t x=>wQ x y&&agi P t n g|_=>false)
 |.Ei off y=>(match op with
   |.fieldAddr s x f=>wQ x y&&(match F6 P s f with|some fd=>Nat.beq fd.offset off&&(match P.info? fd.type with|some i=>!Nat.beq i.size 0|none=>false)|none=>false)
   |.indexAddr t x (.const (.int _ (.ofNat i)))=>wQ x y&&(match P.underlying t with|some (.array n el)=>Nat.blt i n&&(match P.info? el with|some f=>Wh P el f.size&&Nat.beq (i*f.size) off|none=>false)|_=>false)
   |_=>false)
 |.field off n g y=>(match op with|.field s x f=>wQ x y&&(match F6 P s f with|some fd=>Nat.beq fd.offset off&&agi P fd.type n g|none=>false)|_=>false)
 |.Ej e x' i'=>(match op with|.indexAddr t x i=>wQ x x'&&wQ i i'&&(match P.underlying t with|some (.slice el)=>Wh P el e|_=>false)|_=>false)
 |.ext i' y=>(match op with|.extract x i=>wQ x y&&Nat.beq i i'|_=>false)
 |.bin b x' y'=>(match op with|.binOp b' t x y _=>decide (b=b')&&wQ x x'&&wQ y y'&&true|.unOp .neg _ y=>decide (b=.sub)&&wQ y y'&&(match x' with|.k (.c (.int _ (.ofNat 0)))=>true|_=>false)|_=>false)
 |.eqb p x' y'=>(match op with|.binOp b t x y _=>(match b with|.eql=>p|.neq=>!p|_=>false)&&wQ x x'&&wQ y y'&&(match P.underlying t with|some .bool=>true|_=>false)|_=>false)
 |.Hu p x' y'=>(match op with|.binOp b t x y _=>(match b with|.eql=>p|.neq=>!p|_=>false)&&wQ x x'&&wQ y y'&&aeb P t|_=>false)
 |.Jg p x' y'=>(match op with|.binOp b t x y _=>(match b with|.eql=>p|.neq=>!p|_=>false)&&wQ x x'&&wQ y y'&&YL P t|_=>false)
 |.nil k p x'=>(match op with|.binOp b t x y _=>(match b with|.eql=>p|.neq=>!p|_=>false)&&wQ x x'&&(match k,P.underlying t,y with
   |0,some (.slice _),.const (.slice none 0 0)=>true|1,some (.pointer _),.const (.pointer none)=>true|2,some (.func _ _ _),.const .nilFunc=>true|_,_,_=>false)|_=>false)
 |.not y=>(match op with|.unOp .not _ x=>wQ x y|_=>false)
 |.conv k y=>(match op with|.convert src dst x=>wQ x y&&(P.underlying src).isSome&&(match P.underlying dst with|some (.int j)=>decide (j=k)|_=>false)|_=>false)
 |.build z ps=>(match op with|.build t parts=>(match P.info? t with|some i=>(match i.zero with|some zv=>kBs zv.cells.toList z|none=>false)|none=>false)&&
   (match P.underlying t with|some (.struct fs)=>(match placesOf P fs.toList with|some pl=>Jj (λi=>pl[i]?) parts.toList ps|none=>false)|_=>false)|_=>false)
 |.Tq f' cs=>(match op with|.makeFunc (.func f) first caps=>Nat.beq f f'&&first.toList.isEmpty&&abZ caps.toList cs|_=>false)
 |.len y=>(match op with|.call c=>(match c.callee with|.builtin .len=>(match c.args.toList,c.argTypes.toList with
   |[x],[t]=>wQ x y&&(match P.underlying t with|some (.slice _)=>true|_=>false)|_,_=>false)|_=>false)|_=>false)
 |.slen y=>(match op with|.call c=>(match c.callee with|.builtin .len=>(match c.args.toList,c.argTypes.toList with|[x],[t]=>wQ x y&&YM P t|_,_=>false)|_=>false)|_=>false)
 |.Tz y j=>(match op with|.index t x i=>wQ x y&&wQ i j&&YM P t|_=>false)
 |.Pv y j=>(match op with|.slice t x (some i) none none=>wQ x y&&wQ i j&&YM P t|_=>false)
 |.YF y=>(match op with|.convert s t x=>wQ x y&&YM P t&&(match P.underlying s with|some (.slice e)=>(match P.underlying e with|some (.int k)=>decide (k=.u8)|_=>false)|_=>false)|_=>false)
 |.slice e y lo' hi' mx'=>(match op with|.slice t x lo hi mx=>wQ x y&&PI lo lo'&&PI hi hi'&&PI mx mx'&&(mx.isNone||hi.isSome)&&(match P.underlying t with|some (.slice el)=>Wh P el e|_=>false)|_=>false)
 |.lookup m' k'=>(match op with|.lookup t m k false=>wQ m m'&&wQ k k'&&Nat.beq t 143|_=>false)
 |.min2 x' y'=>(match op with|.call c=>(match c.callee with|.builtin .min=>(match c.args.toList with|[x,y]=>wQ x x'&&wQ y y'|_=>false)|_=>false)|_=>false)
 |.Tv y=>(match op with|.nilCheck x=>wQ x y|_=>false)
 |.bad=>true
 |_=>false
theorem sS{v:V}{n:Nat}(h:En v=some n):v=.c (.int .i64 (Int.ofNat n)):=by
 unfold En at h;split at h
 .grind
 .cases h
theorem YO{k:IntKind}{n:Int}(h:Ih k n=true):k.wrap n=n:=by
 unfold Ih at h;split at h
 .next m=>have:=ax h;grind[IntKind.wrap_i64]
 .next m=>have:=ax h;rw[IntKind.wrap_i64];omega
 .next m=>have:=ax h;grind[IntKind.wrap_u8]
 .cases h
theorem PK(a b:Nat):((bn a).toList==(bn b).toList)=Nat.beq a b:=by
 by_cases h:a=b
 .simp_all
 grind[Nat.eq_of_beq_eq_true,bn,dS,ByteArray.toList_eq]
theorem Wi(a b:ByteArray):(a.toList==b.toList)=decide (a=b):=by
 by_cases h:a=b
 .grind
 .rw[ap h,beq_eq_false_iff_ne];intro e;rw[ByteArray.toList_eq,ByteArray.toList_eq]at e;apply h;obtain⟨⟨l⟩⟩:=a;simp_all
section
variable {P:Program} {N:Nat} {w0 w:World} {φ:Ph} {J:St} {tm:Tr V} {a:Act} {v:V}
def YQ(P:Program)(w:World)(φ:Ph)(a:Act)(op:Op)(v:V):Prop:=
 ∀o:Oper,o.op=op->∃cv,(execOp a.eval o).run P w=.ok (.value cv) w/\RV φ v cv
theorem ax7{op:Op}{y:O}(hi:jo P op (.MH y)=true)(h:dA (.MH y) tm J=some v)(ht:RT φ tm a):YQ P w φ a op v:=by
 have hv:v=y.ev tm:=by grind[dA]
 subst hv;simp only[jo]at hi;intro o ho;split at hi
 .simp_all[execOp,bW]
 .simp_all[execOp,bW]
 grind
theorem atv{op:Op}{x y z:O}(hi:jo P op (.pick x y z)=true)(h:dA (.pick x y z) tm J=some v)(ht:RT φ tm a):YQ P w φ a op v:=by
 simp only[jo]at hi;simp only[dA,ash]at h;intro o ho;split at hi
 .simp only[af]at hi;have hc:=bW hi.1.1 ht;split at h
  .next t hc'=>
   cases h;rw[hc']at hc;simp only[RV,RB]at hc;cases t
   .simp_all[execOp,asBool,bW]
   simp_all[execOp,asBool,bW]
  .cases h
 grind
theorem atw(hR:Rel N w0 φ J w){op:Op}{n:Nat}{g:Bool}{y:O}(hi:jo P op (.load n g y)=true)(h:dA (.load n g y) tm J=some v)(ht:RT φ tm a):YQ P w φ a op v:=by
 simp only[jo]at hi;simp only[dA,ad6]at h;intro o ho;split at hi
 .next t x=>
  simp only[af]at hi;have hx:=bW hi.1 ht;split at h
  .next b off hx'=>
   rw[hx']at hx;obtain⟨p,hp,e⟩:=hx;split at h
   .next k hk=>
    cases hpl:k.rd with
    |false=>grind
    |true=>
     rw[hpl]at h
     obtain⟨cv,h1,h2⟩:=Ji (P:=P) hR hi.2 hk hpl hp h
     simp_all[execOp,Instr.loadAt,Instr.sureAddr]
   .cases h
  .cases h
 grind
theorem ajb[hPP:rJ P](hR:Rel N w0 φ J w){op:Op}{y z:O}(hi:jo P op (.lookup y z)=true)(h:dA (.lookup y z) tm J=some v)(ht:RT φ tm a):YQ P w φ a op v:=by
 obtain rfl:=hPP.eq;simp only[jo]at hi;simp only[dA,ad7]at h;intro o ho;split at hi
 .next t m k=>
  simp only[af]at hi;obtain⟨⟨i1,i2⟩,i3⟩:=hi;have i3:=aq i3;subst i3;have hm:=bW i1 ht;have hk:=bW i2 ht;split at h
  .next b e j hy hz=>
   rw[hy]at hm;rw[hz]at hk;obtain⟨p,hp,e1⟩:=hm;obtain⟨r,e2,hr⟩:=hk;obtain⟨l⟩:=r;have e3:l=[.int .i64 e,.int .i64 j]:=by
    match l,hr with
    |[u,v],hr=>
     have h1:u=.int .i64 e:=hr.1
     have h2:v=.int .i64 j:=hr.2.1
     grind
   subst e3;split at h
   .next c hb=>
    cases hw:(Ih .i64 e&&Ih .i64 j)with
    |false=>grind
    |true=>
     rw[hw]at h
     cases h
     rw[af]at hw
     obtain⟨L,hL,hM⟩:=(hR.blk b _ p hb hp).map PG
     have hL:c=DC L:=hL
     have:=hM.look (e,j) (V7 hw.1) (V7 hw.2)
     refine⟨.bool (hasB c e j),?_,rfl⟩
     rw[hL,show hasB (DC L) e j=ML.YJ L (e,j)from agh L (e,j)]
     simp_all[ML.kv,execOp]
   .cases h
  .cases h
 grind
theorem atx{op:Op}{y z:O}(hi:jo P op (.min2 y z)=true)(h:dA (.min2 y z) tm J=some v)(ht:RT φ tm a):YQ P w φ a op v:=by
 simp only[jo]at hi;simp only[dA,aso]at h;intro o ho;split at hi
 .next c=>
  split at hi
  .next hc=>
   split at hi
   .next x u hX=>
    rw[af]at hi;have hx:=bW hi.1 ht;have hu:=bW hi.2 ht;split at h
    .next j m k n hy hz=>
     rw[hy]at hx;rw[hz]at hu;have hx:a.eval x=.int j m:=hx;have hu:a.eval u=.int k n:=hu;cases hjk:decide (j=k)with
     |false=>grind
     |true=>
      have ejk:j=k:=cI hjk
      subst ejk
      rw[hjk]at h
      simp only[bB]at h
      have hA:c.args= #[x,u]:=by grind
      have hrun:(execOp a.eval o).run P w=.ok (.value (.int j (if n<m then n else m))) w:=by simp_all[execOp,resolve,invoke,builtin,Builtin.min_,Builtin.min2]
      grind
    .cases h
   grind
  grind
 grind
def Jk{s:TypeId}{f:Nat}{fd:Field}(h:F6 P s f=some fd):∃fs,P.underlying s=some (.struct fs)/\fs[f]?=some fd:=by grind[F6]
theorem aof{op:Op}{n:Nat}{y:O}(hi:jo P op (.Ei n y)=true)(h:dA (.Ei n y) tm J=some v)(ht:RT φ tm a):YQ P w φ a op v:=by
 simp only[jo]at hi;simp only[dA,abV,jr]at h;intro o ho;split at hi
 .next s x f=>
  rw[af]at hi;have hx:=bW hi.1 ht;have hi2:=hi.2;split at hi2
  .next fd hfd=>
   obtain⟨fs,hfs,hfd⟩:=Jk hfd;rw[af]at hi2;have ho2:=aq hi2.1;have hi3:=hi2.2;split at hi3
   .next i aog=>
    have hz:¬i.size=0:=by intro e;simp_all
    split at h
    .next b off hx'=>
     rw[hx']at hx;obtain⟨p,hp,e⟩:=hx;cases h;refine⟨.pointer (some ⟨p.1,off+n,none⟩),?_,p,hp,rfl⟩;simp_all[execOp,Instr.fieldAt,run_underlying,Instr.sureAddr,fieldPlace,sizeOf,typeInfo,Addr.add_lit]
    .cases h
   grind
  grind
 .next t x k i=>
  rw[af]at hi;have hx:=bW hi.1 ht;have hi2:=hi.2;split at hi2
  .next m el hel=>
   rw[af]at hi2;have hlt:i<m:=ax hi2.1;have hi3:=hi2.2;split at hi3
   .next f hf=>
    rw[af]at hi3;have hs:=BD hi3.1 w;have ho2:=aq hi3.2;split at h
    .next b off hx'=>
     rw[hx']at hx;obtain⟨p,hp,e⟩:=hx;cases h;refine⟨.pointer (some ⟨p.1,off+n,none⟩),?_,p,hp,rfl⟩;have hE:P.elem t=el:=by simp[Program.elem,hel]
     have hA:P.arrayLen t=m:=by simp[Program.arrayLen,hel]
     have hc:a.eval (.const (.int k (.ofNat i)))=.int k (.ofNat i):=rfl;simp only[execOp,ho,Sem.run_bind,e,hc];rw[run_indexAt_array (P:=P) w t _ k _ (by rw[hE,hA];exact hel),hA,ab ⟨by simp,by simpa using hlt⟩,hE,hs];simp[Addr.add_lit,ho2]
    .cases h
   .cases hi3
  .cases hi2
 grind
theorem aoh{op:Op}{off n:Nat}{g:Bool}{y:O}(hi:jo P op (.field off n g y)=true)(h:dA (.field off n g y) tm J=some v)(ht:RT φ tm a):YQ P w φ a op v:=by
 simp only[jo]at hi;simp only[dA,ai1]at h;intro o ho;split at hi
 .next s x f=>
  rw[af]at hi;have hx:=bW hi.1 ht;have hi2:=hi.2;split at hi2
  .next fd hfd=>
   obtain⟨fs,hfs,hfd⟩:=Jk hfd;rw[af]at hi2;have ho2:=aq hi2.1;obtain⟨h1,h2,h3⟩:=Uk hi2.2 w;split at h
   .next l hx'=>
    rw[hx']at hx;obtain⟨r,e,hr⟩:=hx;cases g with
    |true=>
     refine⟨.agg (r.extract off (off+n)),?_,?_⟩
     .simp_all[execOp,Instr.field,run_underlying,asAgg,part]
     .unfold zT at h
      simp only at h
      cases hb:(Nat.beq ((l.drop off).take n).length n&&((l.drop off).take n).all B.kn)with
      |false=>grind
      |true=>
       rw[hb]at h
       cases h
       refine⟨_,rfl,?_⟩
       have:=(hr.drop off).take n
       simp_all
    |false=>
     obtain⟨xs,hx,hxs,-,hsc⟩:=aoe h h3 hr
     obtain⟨u,rfl,hu⟩:=hsc rfl
     refine⟨u,?_,hu⟩
     have h9:=hxs 0 u rfl
     simp_all[execOp,Instr.field,run_underlying,asAgg,part]
   .cases h
  grind
 grind
theorem aoi{op:Op}{n:Nat}{y i:O}(hi:jo P op (.Ej n y i)=true)(h:dA (.Ej n y i) tm J=some v)(ht:RT φ tm a):YQ P w φ a op v:=by
 simp only[jo]at hi;simp only[dA,abW]at h;intro o ho;split at hi
 .next t x ix=>
  rw[af,af]at hi;have hx:=bW hi.1.1 ht;have hix:=bW hi.1.2 ht;have hi2:=hi.2;split at hi2
  .next el hel=>
   have hs:=BD hi2 w;split at h
   .next b off len c j hx' hj=>
    rw[sS hj]at hix;rw[hx']at hx;simp only[RV,RB]at hix;cases hb:Nat.blt j len with
    |false=>grind
    |true=>
     rw[hb]at h
     obtain⟨p,K,hp,e,hle,-⟩:=hx.resolve_right λhw=>by simp_all
     simp only[bB,jr]at h
     cases h
     have hlt:j<len:=ax hb
     refine⟨.pointer (some ⟨p.1,off+j*n,none⟩),?_,p,hp,rfl⟩
     simp_all[Program.elem,execOp,run_indexAt_slice,Addr.add_lit]
   .cases h
  grind
 grind
end
end Go.Proofs.Xe
