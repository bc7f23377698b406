import Derived.Test.YtchhojplceoifaaGreatDoorYc9
set_option linter.all false
noncomputable section
namespace Go.Proofs.Xe
open Go.RowKit Go.Proofs.Ins
def adR(tm:Tr V)(d:Nat)(v:V):Tr.ah (ER tm (some d) v) d=v:=by grind[Tr.ah,ER,Tr.uo]
def alh(tm:Tr V)(d j:Nat)(v:V)(h:j≠d):Tr.ah (ER tm (some d) v) j=Tr.ah tm j:=by grind[Tr.ah,ER,Tr.uo]
def adS(tm:Tr V)(v:V):ER tm none v=tm:=rfl
def adT(a:V)(l:List V):Tr.ah (ini (a::l)) 0=a:=by grind[Tr.ah,AP]
def adU(a b:V)(l:List V):Tr.ah (ini (a::b::l)) 1=b:=by grind[Tr.ah,AP]
def adV(a b c:V)(l:List V):Tr.ah (ini (a::b::c::l)) 2=c:=by grind[Tr.ah,AP]
def adW(a b c d:V)(l:List V):Tr.ah (ini (a::b::c::d::l)) 3=d:=by grind[Tr.ah,AP]
def adZ(a b c d e:V)(l:List V):Tr.ah (ini (a::b::c::d::e::l)) 4=e:=by grind[Tr.ah,AP]
def ad1(a b c d e f:V)(l:List V):Tr.ah (ini (a::b::c::d::e::f::l)) 5=f:=by grind[Tr.ah,AP]
def ad2(a b c d e f g:V)(l:List V):Tr.ah (ini (a::b::c::d::e::f::g::l)) 6=g:=by simp_all[Tr.ah,AP]
def axu(tm:Tr V)(i:Nat):O.ev tm (.t i)=Tr.ah tm i:=rfl
def axv(tm:Tr V)(v:V):O.ev tm (.k v)=v:=rfl
def z3(l:List B):(B.bool false::s0::s0::l)=(.bool (rn 0):: .str (rs 0):: .str (rd 0)::l):=rfl
def hset(h:Tr Bk)(b:Nat)(k:Bk):Tr Bk:=h.set b (some k)
theorem aA(h:Tr Bk)(b:Nat)(k:Bk):hset h b k b=some k:=by grind[hset,Tr.uo]
theorem au(h:Tr Bk)(b j:Nat)(k:Bk)(e:j≠b):hset h b k j=h j:=by grind[hset,Tr.uo]
def ld(h:Tr Bk)(b o n:Nat)(g:Bool):Option V:=match h b with|some k=>bif k.rd then zI k.cells o n g else none|none=>none
def sto(h:Tr Bk)(b o:Nat)(vs:List B):Option (Tr Bk):=match h b with
 |some k=>(match bif k.pl then yw k.cells o vs else none with|some l=>some (hset h b ⟨l,k.opn⟩)|none=>none)
 |none=>none
def agA(n:Nat)(g:Bool)(x:O)(tm:Tr V)(σ:St):abx n g x tm σ=match x.ev tm with|.c (.ptr b o)=>ld σ.h b o n g|_=>none:=rfl
theorem ad3(n:Nat)(a x:O)(tm:Tr V)(σ:St):uH (.store n a x) tm σ=match a.ev tm,(x.ev tm).cells with
  |.c (.ptr b o),some vs=>bif Nat.beq vs.length n then(match sto σ.h b o vs with|some h=>some (.und,⟨h,σ.aj⟩)|none=>none)else none
  |_,_=>none:=by
 unfold uH sto
 dsimp only
 generalize O.ev tm a=va
 generalize (O.ev tm x).cells=vc
 cases vc with
 |none=>simp
 |some vs=>
  split
  .next b o vs' e=>
   cases e
   dsimp only
   cases Nat.beq vs.length n with
   |false=>rfl
   |true=>
    simp only[cD]
    cases σ.h b with
    |none=>rfl
    |some k=>
     dsimp only
     cases(bif k.pl then yw k.cells o vs else none)with
     |none=>rfl
     |some l=>rfl
  simp
theorem kJ(σ:St)(k:Bk):σ.new k=some (σ.aj,⟨hset σ.h σ.aj k,σ.aj+1⟩):=by rfl
def ali(h:Tr Bk)(b:Nat)(k:Bk)(o n:Nat)(g:Bool):ld (hset h b k) b o n g=bif k.rd then zI k.cells o n g else none:=by unfold ld;rw[aA]
def auu(h:Tr Bk)(b j:Nat)(k:Bk)(o n:Nat)(g:Bool)(e:j≠b):ld (hset h b k) j o n g=ld h j o n g:=by grind[ld,au]
def agB(h:Tr Bk)(b:Nat)(k:Bk)(o:Nat)(vs:List B):sto (hset h b k) b o vs=match bif k.pl then yw k.cells o vs else none with|some l=>some (hset (hset h b k) b ⟨l,k.opn⟩)|none=>none:=by unfold sto;rw[aA]
def aql(h:Tr Bk)(b j:Nat)(k:Bk)(o:Nat)(vs:List B)(e:j≠b):sto (hset h b k) j o vs=match h j with|some k'=>(match bif k'.pl then yw k'.cells o vs else none with|some l=>some (hset (hset h b k) j ⟨l,k'.opn⟩)|none=>none)|none=>none:=by grind[sto,au]
def axw{α:Sort _}(a b:α):(bif true then a else b)=a:=rfl
def axx{α:Sort _}(a b:α):(bif false then a else b)=b:=rfl
theorem Hz{a b:Nat}(h:a<b):Nat.blt a b=true:=fj h
theorem xE{a b:Nat}(h:a<=b):Nat.ble a b=true:=fj h
theorem abJ(a:Nat):Nat.beq a a=true:=by simp
theorem QS{a b:Nat}(h:a≠b):Nat.beq a b=false:=by grind[Nat.eq_of_beq_eq_true]
theorem Ud{n:Nat}(h:n<=9223372036854775807):mkI .i64 (.ofNat n)=some (.c (.int .i64 (.ofNat n))):=by grind[mkI,aow,I9,xE]
def add_ofNat(a b:Nat):(Int.ofNat a+Int.ofNat b)=Int.ofNat (a+b):=rfl
def aG(a b:Nat):decide (Int.ofNat a<Int.ofNat b)=decide (a<b):=by simp
def WF(σ:St):Prop:=∀b,σ.aj<=b->σ.h b=none
structure Fr(σ σ':St):Prop where
 le:σ.aj<=σ'.aj
 wf:WF σ'
 old:∀b,b<σ.aj->σ'.h b=σ.h b
theorem Fr.refl{σ:St}(h:WF σ):Fr σ σ:=⟨jp,h,λ_ _=>rfl⟩
def Fr.trans{σ σ' Kw:St}(h:Fr σ σ')(h':Fr σ' Kw):Fr σ Kw:=⟨aw h.le h'.le,h'.wf,λb hb=>(h'.old b (aL hb h.le)).trans (h.old b hb)⟩
def WF.lt{σ:St}(h:WF σ){b:Nat}{k:Bk}(hb:σ.h b=some k):b<σ.aj:=by refine Nat.lt_of_not_le λe=>?_;rw[h b e]at hb;cases hb
def WF.dB{σ:St}(h:WF σ){b o n:Nat}{g:Bool}{v:V}(hb:ld σ.h b o n g=some v):b<σ.aj:=by
 unfold ld at hb;split at hb
 .next k hk=>exact h.lt hk
 grind
theorem Fr.ld{σ σ':St}(h:WF σ)(hf:Fr σ σ'){b o n:Nat}{g:Bool}{v:V}(hb:Xe.ld σ.h b o n g=some v):Xe.ld σ'.h b o n g=some v:=by have hlt:=h.dB hb;unfold Xe.ld at hb⊢;rw[hf.old b hlt];exact hb
def Fr.get{σ σ':St}(h:WF σ)(hf:Fr σ σ'){b:Nat}{k:Bk}(hb:σ.h b=some k):σ'.h b=some k:=by rw[hf.old b (h.lt hb)];exact hb
def Fr.new{σ σ':St}(hf:Fr σ σ')(k:Bk):Fr σ ⟨hset σ'.h σ'.aj k,σ'.aj+1⟩:=
 ⟨Nat.le_succ_of_le hf.le,λb hb=>by
  have hb:σ'.aj+1<=b:=hb;show hset σ'.h σ'.aj k b=none;rw[au _ _ _ _ jb];exact hf.wf b jb,λb hb=>by
  show hset σ'.h σ'.aj k b=_;have:=hf.le;rw[au _ _ _ _ jb];exact hf.old b hb⟩
def Fr.set{σ σ':St}(hf:Fr σ σ'){b:Nat}(hb:σ.aj<=b)(hb2:b<σ'.aj)(k:Bk):Fr σ ⟨hset σ'.h b k,σ'.aj⟩:=
 ⟨hf.le,λj hj=>by
  have hj:σ'.aj<=j:=hj;show hset σ'.h b k j=none;rw[au _ _ _ _ jb];exact hf.wf j hj,λj hj=>by
  show hset σ'.h b k j=_;rw[au _ _ _ _ jb];exact hf.old j hj⟩
def HL(h:Tr Bk)(e:Nat)(v:B)(n:Nat)(G:Nat->List B):Prop:=
 (n=0/\v=.aX)\/∃b o c,v=.sl b o n c/\∀i,i<n->ld h b (o+i*e) e true=some (.agg (G i))
def HC(h:Tr Bk)(v:B)(n:Nat)(G:Nat->B):Prop:=
 (n=0/\v=.aX)\/∃b o c,v=.sl b o n c/\∀i,i<n->ld h b (o+i*1) 1 false=some (.c (G i))
def lenV:V->Option V
 |.c (.sl _ _ n _)=>some (.c (.int .i64 (.ofNat n)))
 |.c .aX=>some (.c (.int .i64 (.ofNat 0)))
 |_=>none
def alj(b o n:Nat)(c:Cap):lenV (.c (.sl b o n c))=some (.c (.int .i64 (.ofNat n))):=rfl
def ad4:lenV (.c .aX)=some (.c (.int .i64 (.ofNat 0))):=rfl
def HL.len{h:Tr Bk}{e:Nat}{v:B}{n:Nat}{G:Nat->List B}(hl:HL h e v n G):lenV (.c v)=some (.c (.int .i64 (.ofNat n))):=by rcases hl with⟨rfl,rfl⟩|⟨b,o,c,rfl,-⟩<;>rfl
def HC.len{h:Tr Bk}{v:B}{n:Nat}{G:Nat->B}(hl:HC h v n G):lenV (.c v)=some (.c (.int .i64 (.ofNat n))):=by rcases hl with⟨rfl,rfl⟩|⟨b,o,c,rfl,-⟩<;>rfl
def HL.pos{h:Tr Bk}{e:Nat}{v:B}{n:Nat}{G:Nat->List B}(hl:HL h e v n G)(hn:0<n):∃b o c,v=.sl b o n c/\∀i,i<n->ld h b (o+i*e) e true=some (.agg (G i)):=by
 rcases hl with⟨rfl,-⟩|h
 .omega
 .exact h
def HC.pos{h:Tr Bk}{v:B}{n:Nat}{G:Nat->B}(hl:HC h v n G)(hn:0<n):∃b o c,v=.sl b o n c/\∀i,i<n->ld h b (o+i*1) 1 false=some (.c (G i)):=by
 rcases hl with⟨rfl,-⟩|h
 .omega
 .exact h
theorem HL.fr{σ σ':St}(hW:WF σ)(hf:Fr σ σ'){e:Nat}{v:B}{n:Nat}{G:Nat->List B}(hl:HL σ.h e v n G):HL σ'.h e v n G:=by
 rcases hl with h|⟨b,o,c,rfl,h⟩
 .exact .inl h
 .exact .inr ⟨b,o,c,rfl,λi hi=>hf.ld hW (h i hi)⟩
theorem HC.fr{σ σ':St}(hW:WF σ)(hf:Fr σ σ'){v:B}{n:Nat}{G:Nat->B}(hl:HC σ.h v n G):HC σ'.h v n G:=by
 rcases hl with h|⟨b,o,c,rfl,h⟩
 .exact .inl h
 .exact .inr ⟨b,o,c,rfl,λi hi=>hf.ld hW (h i hi)⟩
section
variable (E:Env)
def ad5(tm:Tr V)(σ:St)(Q:Tr V->St->Prop):wpOps E [] tm σ Q=Q tm σ:=rfl
def wpOps_cons(o:AO)(r:List AO)(tm:Tr V)(σ:St)(Q:Tr V->St->Prop):wpOps E (o::r) tm σ Q=wpG E o tm σ λv σ'=>wpOps E r (ER tm o.dst v) σ' Q:=rfl
variable (tm:Tr V) (σ:St) (K:V→St→Prop)
def Gs(o:Option V)(K:V->Prop):Prop:=match o with|some v=>K v|none=>False
def agC(v:V)(K:V->Prop):Gs (some v) K=K v:=rfl
theorem iF{op:vV}(h:op.kind=.q)(h2:∀g l,op≠.call g l):wpOp E op tm σ K=Gs (dI op tm σ) λv=>K v σ:=by unfold wpOp;grind[oV,Gs]
def aqm(c a b:O):wpOp E (.pick c a b) tm σ K=Gs (match c.ev tm with|.c (.bool t)=>some (bif t then a.ev tm else b.ev tm)|_=>none) λv=>K v σ:=iF _ _ _ _ rfl λ_ _ h=>by cases h
def o_load(n:Nat)(g:Bool)(x:O):wpOp E (.load n g x) tm σ K=Gs (match x.ev tm with|.c (.ptr b o)=>ld σ.h b o n g|_=>none) λv=>K v σ:=iF _ _ _ _ rfl λ_ _ h=>by cases h
def alk(off:Nat)(x:O):wpOp E (.CG off x) tm σ K=Gs (match x.ev tm with|.c (.ptr b o)=>some (.c (.ptr b (o+off)))|_=>none) λv=>K v σ:=by rw[iF _ _ _ _ (by rfl) λ_ _ h=>by cases h];grind[dI,Zz,sO]
def alm(off n:Nat)(g:Bool)(x:O):wpOp E (.field off n g x) tm σ K=Gs (match x.ev tm with|.agg l=>zI l off n g|_=>none) λv=>K v σ:=iF _ _ _ _ rfl λ_ _ h=>by cases h
def iaV(e:Nat)(v:V)(i:V):Option V:=match v,J3 i with|.c (.sl b o n _),some j=>(bif Nat.blt j n then some (.c (.ptr b (o+j*e)))else none)|_,_=>none
def aln(e:Nat)(x i:O):wpOp E (.Fj e x i) tm σ K=Gs (iaV e (x.ev tm) (i.ev tm)) λv=>K v σ:=by rw[iF _ _ _ _ (by rfl) λ_ _ h=>by cases h];unfold dI ZA iaV;grind[sO]
def aqn(e b o n j:Nat)(c:Cap)(h:j<n):iaV e (.c (.sl b o n c)) (.c (.int .i64 (.ofNat j)))=some (.c (.ptr b (o+j*e))):=by simp_all[iaV,J3,Hz]
def auv(i:Nat)(x:O):wpOp E (.ext i x) tm σ K=Gs (afW i x tm) λv=>K v σ:=iF _ _ _ _ rfl λ_ _ h=>by cases h
def agD:Nat->V->Option V
 |0,.aV a _=>some a
 |1,.aV _ (.aV a _)=>some a
 |2,.aV _ (.aV _ (.aV a _))=>some a
 |_,_=>none
def aqo(i:Nat)(x:O)(tm:Tr V):afW i x tm=agD i (x.ev tm):=by unfold afW agD;grind
def aqp(a r:V):agD 0 (.aV a r)=some a:=rfl
def aqr(a b r:V):agD 1 (.aV a (.aV b r))=some b:=rfl
def aqs(a b c r:V):agD 2 (.aV a (.aV b (.aV c r)))=some c:=rfl
def auw(b:BinOp)(x y:O):wpOp E (.bin b x y) tm σ K=Gs (nV b (x.ev tm) (y.ev tm)) λv=>K v σ:=iF _ _ _ _ rfl λ_ _ h=>by cases h
def auy(a b:Int):nV .lss (.c (.int .i64 a)) (.c (.int .i64 b))=some (.c (.bool (decide (a<b)))):=rfl
def auz(a b:Int):nV .gtr (.c (.int .i64 a)) (.c (.int .i64 b))=some (.c (.bool (decide (b<a)))):=rfl
def auA(a b:Int):nV .leq (.c (.int .i64 a)) (.c (.int .i64 b))=some (.c (.bool (decide (a<=b)))):=rfl
def auB(a b:Int):nV .geq (.c (.int .i64 a)) (.c (.int .i64 b))=some (.c (.bool (decide (b<=a)))):=rfl
def auC(a b:Int):nV .eql (.c (.int .i64 a)) (.c (.int .i64 b))=some (.c (.bool (decide (a=b)))):=rfl
def auD(a b:Int):nV .neq (.c (.int .i64 a)) (.c (.int .i64 b))=some (.c (.bool (!decide (a=b)))):=rfl
def aqt(a b:ByteArray):nV .eql (.c (.str a)) (.c (.str b))=some (.c (.bool (decide (a=b)))):=rfl
def aqu(a b:ByteArray):nV .neq (.c (.str a)) (.c (.str b))=some (.c (.bool (!decide (a=b)))):=rfl
def auE(a b:Nat)(h:a+b<=9223372036854775807):nV .add (.c (.int .i64 (.ofNat a))) (.c (.int .i64 (.ofNat b)))=some (.c (.int .i64 (.ofNat (a+b)))):=by show mkI .i64 (Int.ofNat a+Int.ofNat b)=_;rw[add_ofNat,Ud h]
def aoO(a b:Nat)(h:a<=9223372036854775807)(h2:b<=a):nV .sub (.c (.int .i64 (.ofNat a))) (.c (.int .i64 (.ofNat b)))=some (.c (.int .i64 (.ofNat (a-b)))):=by show mkI .i64 (Int.ofNat a-Int.ofNat b)=_;grind[Ud]
def auF(p:Bool)(x y:O):wpOp E (.eqb p x y) tm σ K=Gs (match x.ev tm,y.ev tm with|.c (.bool a),.c (.bool b)=>some (.c (.bool (p==(a==b))))|_,_=>none) λv=>K v σ:=iF _ _ _ _ rfl λ_ _ h=>by cases h
def alo(p:Bool)(x y:O):wpOp E (.Fp p x y) tm σ K=Gs (match x.ev tm,y.ev tm with|.agg l,.agg r=>(match eqB l r with|some b=>some (.c (.bool (p==b)))|none=>none)|_,_=>none) λv=>K v σ:=iF _ _ _ _ rfl λ_ _ h=>by cases h
def aqv(a b c d:Int):eqL [.int .i64 a,.int .i64 b] [.int .i64 c,.int .i64 d]=some (decide (a=c)&&decide (b=d)):=rfl
def alp(p q:Rat):eqB [.bool (rn p),.str (rs p),.str (rd p)] [.bool (rn q),.str (rs q),.str (rd q)]=some (decide (p=q)):=by grind[eqB,eqS,decide,Zg]
def auG(k:Nat)(p:Bool)(v:V):Option V:=match k,v with
 |0,.c (.sl ..)=>some (.c (.bool (!p)))
 |0,.c .aX=>some (.c (.bool p))
 |1,.c (.ptr ..)=>some (.c (.bool (!p)))
 |1,.c .TB=>some (.c (.bool p))
 |2,.fn ..=>some (.c (.bool (!p)))
 |2,.MS=>some (.c (.bool p))
 |_,_=>none
def auH(k:Nat)(p:Bool)(x:O):wpOp E (.nil k p x) tm σ K=Gs (auG k p (x.ev tm)) λv=>K v σ:=iF _ _ _ _ rfl λ_ _ h=>by cases h
def auI(x:O):wpOp E (.not x) tm σ K=Gs (match x.ev tm with|.c (.bool b)=>some (.c (.bool !b))|_=>none) λv=>K v σ:=iF _ _ _ _ rfl λ_ _ h=>by cases h
def alq(z:List B)(ps:List (Nat×Nat×O)):wpOp E (.build z ps) tm σ K=Gs (match CJ z (ps.map λp=>(p.1,p.2.1,p.2.2.ev tm))with|some l=>some (.agg l)|none=>none) λv=>K v σ:=iF _ _ _ _ rfl λ_ _ h=>by cases h
def aqw(f:Nat)(cs:List O):wpOp E (.PU f cs) tm σ K=Gs (match Zy tm cs with|some l=>some (.fn f l)|none=>none) λv=>K v σ:=iF _ _ _ _ rfl λ_ _ h=>by cases h
def auJ(x:O):wpOp E (.len x) tm σ K=Gs (lenV (x.ev tm)) λv=>K v σ:=iF _ _ _ _ rfl λ_ _ h=>by cases h
def aqx(x:O):wpOp E (.PV x) tm σ K=Gs (match x.ev tm with|.c (.ptr b o)=>some (.c (.ptr b o))|.fn f l=>some (.fn f l)|_=>none) λv=>K v σ:=iF _ _ _ _ rfl λ_ _ h=>by cases h
def alr(z:List B):wpOp E (.alloc z) tm σ K=K (.c (.ptr σ.aj 0)) ⟨hset σ.h σ.aj ⟨z,none⟩,σ.aj+1⟩:=by rfl
def auK(x:O):wpOp E (.box x) tm σ K=match(x.ev tm).cells with|some l=>K (.c (.ptr σ.aj 0)) ⟨hset σ.h σ.aj ⟨l,none⟩,σ.aj+1⟩|none=>False:=by grind[wpOp,oV,vV.kind,nN,kJ]
def aqy(bytes:Nat)(z:List B)(l c:O):wpOp E (.Kt bytes z l c) tm σ K=match J3 (l.ev tm),J3 (c.ev tm)with
  |some n,some m=>(bif Nat.ble n m&&(Nat.ble (bytes*m) 281474976710656&&Nat.ble m 1073741824)then K (.c (.sl σ.aj 0 n (.ex m))) ⟨hset σ.h σ.aj ⟨rep z m,none⟩,σ.aj+1⟩else False)
  |_,_=>False:=by
 grind[wpOp,oV,vV.kind,nN,kJ]
def auL(e n:Nat)(z:List B)(ps:List (Nat×Nat×O))(h:n*e<=16777216)(h':n<=16777216):wpOp E (.bsl e n z ps) tm σ K=match CJ (rep z n) (ps.map λp=>(p.1,p.2.1,p.2.2.ev tm))with
  |some l=>K (.c (.sl σ.aj 0 n (.ex n))) ⟨hset σ.h σ.aj ⟨l,none⟩,σ.aj+1⟩|none=>False:=by
 grind[wpOp,oV,vV.kind,nN,kJ,xE]
def als(n:Nat)(a x:O):wpOp E (.store n a x) tm σ K=match a.ev tm,(x.ev tm).cells with
  |.c (.ptr b o),some vs=>(bif Nat.beq vs.length n then(match sto σ.h b o vs with|some h=>K .und ⟨h,σ.aj⟩|none=>False)else False)
  |_,_=>False:=by
 grind[wpOp,oV,vV.kind,ad3]
def aqz(g:O)(args:List O):wpOp E (.call g args) tm σ K=match g.ev tm with|.fn f caps=>aC E f (args.map (·.ev tm)++caps.map .c) σ K|_=>False:=rfl
end
def ZT(tm:Tr V):List Nat->Tr V
 |[]=>tm
 |d::l=>(ZT tm l).set d none
def Jj(tm:Tr V):∀ds,AB tm ds=some (ZT tm ds)
 |[]=>rfl
 |d::l=>by unfold AB;rw[Jj tm l];rfl
theorem abK(tm:Tr V)(j:Nat):∀ds:List Nat,ds.contains j=false->(ZT tm ds).get j=tm.get j
 |[],_=>rfl
 |d::l,h=>by rw[List.contains_cons,Bool.or_eq_false_iff]at h;show((ZT tm l).set d none).get j=_;rw[Tr.uo,ae (by simpa using h.1),abK tm j l h.2]
def agE(tm:Tr V)(ds:List Nat)(j:Nat)(h:ds.contains j=false):Tr.ah (ZT tm ds) j=Tr.ah tm j:=by grind[Tr.ah,abK]
def fnd:List Rs->Nat->Option Rs
 |[],_=>none
 |r::l,u=>bif Nat.beq r.i u then some r else fnd l u
def WW(u:Nat):∀l:List Rs,l.find? (λr=>Nat.beq r.i u)=fnd l u
 |[]=>rfl
 |r::l=>by rw[List.find?_cons,fnd,WW u l];cases Nat.beq r.i u<;>rfl
def tmO:Option (Tr V)->Option Rs->Option (Tr V)
 |some tm,some r=>some (ER tm r.d r.v)
 |_,_=>none
def agF(bV:Tr V)(res:List Rs):Jb bV res []=some bV:=rfl
def ad6(bV:Tr V)(res:List Rs)(u:Nat)(us:List Nat):Jb bV res (u::us)=tmO (Jb bV res us) (fnd res u):=by
 rw[Jb,WW];cases Jb bV res us with
 |none=>rfl
 |some tm=>
  cases fnd res u with
  |none=>rfl
  |some r=>show Ja tm r.d r.v=_;rw[KP];rfl
def agG(tm:Tr V)(i:Nat)(d:Option Nat)(v:V):tmO (some tm) (some ⟨i,d,v⟩)=some (ER tm d v):=rfl
def alu(i:Nat)(d:Option Nat)(v:V)(l:List Rs):fnd (⟨i,d,v⟩::l) i=some ⟨i,d,v⟩:=by unfold fnd;simp
def agH(i u:Nat)(d:Option Nat)(v:V)(l:List Rs)(h:i≠u):fnd (⟨i,d,v⟩::l) u=fnd l u:=by grind[fnd,QS]
def ad7(dR tm:Tr V):Fq dR tm []=some tm:=rfl
def ZU(dR tm:Tr V)(t:Nat)(l:List Nat):Fq dR tm (t::l)=match Fq dR tm l with|some tm=>some (ER tm (some t) (dR.ah t))|none=>none:=by rfl
def aqA(dR bV:Tr V)(res:List Rs)(us os:List Nat):MZ dR bV res us os=match Jb bV res us with|some tm=>Fq dR tm os|none=>none:=rfl
def agI(bV:Tr V):Ku bV []=some bV:=rfl
def ad8(bV:Tr V)(i:Nat)(d:Option Nat)(v:V)(l:List Rs):Ku bV (⟨i,d,v⟩::l)=match Ku bV l with|some tm=>some (ER tm d v)|none=>none:=by grind[Ku,KP]
def BP(g:Option (Nat×Bool))(tm:Tr V)(A B:Prop):Prop:=match gate g tm with|some true=>A|some false=>B|none=>False
def gsV(v:V)(b:Bool)(A B:Prop):Prop:=match v with|.c (.bool c)=>(bif c==b then A else B)|.tnil=>B|_=>False
def aqB(tm:Tr V)(A B:Prop):BP none tm A B=A:=rfl
def aqC(t:Nat)(b:Bool)(tm:Tr V)(A B:Prop):BP (some (t,b)) tm A B=gsV (tm.ah t) b A B:=by grind[BP,gsV,gate]
def aqD(A B:Prop):gsV (.c (.bool true)) true A B=A:=rfl
def aqE(A B:Prop):gsV (.c (.bool true)) false A B=B:=rfl
def aqF(A B:Prop):gsV (.c (.bool false)) true A B=B:=rfl
def aqG(A B:Prop):gsV (.c (.bool false)) false A B=A:=rfl
def alv(b:Bool)(A B:Prop):gsV .tnil b A B=B:=rfl
def abL{p:Prop}[Decidable p]{A B:Prop}(h1:p->A)(h2:¬p->B):gsV (.c (.bool (decide p))) true A B:=by
 by_cases h:p
 .rw[be h];exact h1 h
 .rw[az h];exact h2 h
def WX{p:Prop}[Decidable p]{A B:Prop}(h1:p->B)(h2:¬p->A):gsV (.c (.bool (decide p))) false A B:=by
 by_cases h:p
 .rw[be h];exact h1 h
 .rw[az h];exact h2 h
def uZ(dR bV:Tr V)(qs:List DO)(σ:St)(res:List Rs)(pd:List iT)(K:St->List Rs->List iT->Prop):Prop:=
 match yx dR bV qs σ res pd with
 |some (σ,res,pd)=>K σ res pd
 |none=>False
def alx(dR bV:Tr V)(σ:St)(res:List Rs)(pd:List iT)(K:St->List Rs->List iT->Prop):uZ dR bV [] σ res pd K=K σ res pd:=rfl
section
variable (E:Env) (pt:List (List Nat)) (dR bV:Tr V) (σ:St) (res:List Rs) (pd:List iT)
def qy(i:Nat)(us os:List Nat)(d:Option Nat)(g:Option (Nat×Bool))(op:vV)(l:List DO)(K:St->List Rs->List iT->Prop)(h:op.kind=.q):
  uZ dR bV (⟨i,us,os,⟨d,g,op⟩⟩::l) σ res pd K=match MZ dR bV res us os with
   |some tm=>BP g tm (wpOp E op tm σ λv _=>uZ dR bV l σ (⟨i,d,v⟩::res) (⟨i,⟨d,g,op⟩,tm,v,true,none⟩::pd) K) (uZ dR bV l σ (⟨i,d,.tnil⟩::res) (⟨i,⟨d,g,op⟩,tm,.tnil,false,none⟩::pd) K)
   |none=>False:=by
 unfold uZ BP
 rw[yx]
 dsimp only
 cases MZ dR bV res us os with
 |none=>rfl
 |some tm=>
  dsimp only
  have hc:∀g l,op≠.call g l:=λg l e=>by rw[e]at h;cases h
  grind[iF,Gs]
def ad9(i:Nat)(us os:List Nat)(d:Option Nat)(g:Option (Nat×Bool))(z:List B)(l:List DO)(K:St->List Rs->List iT->Prop):
  uZ dR bV (⟨i,us,os,⟨d,g,.alloc z⟩⟩::l) σ res pd K=match MZ dR bV res us os with
   |some tm=>BP g tm (uZ dR bV l ⟨hset σ.h σ.aj ⟨z,none⟩,σ.aj+1⟩ (⟨i,d,.c (.ptr σ.aj 0)⟩::res) (⟨i,⟨d,g,.alloc z⟩,tm,.c (.ptr σ.aj 0),true,some σ.aj⟩::pd) K)
    (uZ dR bV l σ (⟨i,d,.tnil⟩::res) (⟨i,⟨d,g,.alloc z⟩,tm,.tnil,false,none⟩::pd) K)
   |none=>False:=by
 unfold uZ BP
 rw[yx]
 dsimp only
 cases MZ dR bV res us os with
 |none=>rfl
 |some tm=>
  grind[vV.kind,nN,kJ]
def aly(i:Nat)(us os:List Nat)(d:Option Nat)(g:Option (Nat×Bool))(x:O)(l:List DO)(K:St->List Rs->List iT->Prop):
  uZ dR bV (⟨i,us,os,⟨d,g,.box x⟩⟩::l) σ res pd K=match MZ dR bV res us os with
   |some tm=>BP g tm (match(x.ev tm).cells with
    |some z=>uZ dR bV l ⟨hset σ.h σ.aj ⟨z,none⟩,σ.aj+1⟩ (⟨i,d,.c (.ptr σ.aj 0)⟩::res) (⟨i,⟨d,g,.box x⟩,tm,.c (.ptr σ.aj 0),true,some σ.aj⟩::pd) K
    |none=>False) (uZ dR bV l σ (⟨i,d,.tnil⟩::res) (⟨i,⟨d,g,.box x⟩,tm,.tnil,false,none⟩::pd) K)
   |none=>False:=by
 unfold uZ BP
 rw[yx]
 dsimp only
 cases MZ dR bV res us os with
 |none=>rfl
 |some tm=>
  grind[vV.kind,nN,kJ]
def alz(i:Nat)(us os:List Nat)(d:Option Nat)(g:Option (Nat×Bool))(e n:Nat)(z:List B)(ps:List (Nat×Nat×O))(l:List DO)(K:St->List Rs->List iT->Prop)(hn:n*e<=16777216)(hn2:n<=16777216):
  uZ dR bV (⟨i,us,os,⟨d,g,.bsl e n z ps⟩⟩::l) σ res pd K=match MZ dR bV res us os with
   |some tm=>BP g tm (match CJ (rep z n) (ps.map λp=>(p.1,p.2.1,p.2.2.ev tm))with
    |some c=>uZ dR bV l ⟨hset σ.h σ.aj ⟨c,none⟩,σ.aj+1⟩ (⟨i,d,.c (.sl σ.aj 0 n (.ex n))⟩::res) (⟨i,⟨d,g,.bsl e n z ps⟩,tm,.c (.sl σ.aj 0 n (.ex n)),true,some σ.aj⟩::pd) K
    |none=>False) (uZ dR bV l σ (⟨i,d,.tnil⟩::res) (⟨i,⟨d,g,.bsl e n z ps⟩,tm,.tnil,false,none⟩::pd) K)
   |none=>False:=by
 unfold uZ BP
 rw[yx]
 dsimp only
 cases MZ dR bV res us os with
 |none=>rfl
 |some tm=>
  grind[vV.kind,nN,xE,kJ]
def agn(σ:St):List iT->Prop
 |[]=>True
 |p::l=>again σ p=true/\agn σ l
theorem Ue(σ:St):∀l:List iT,(l.all (again σ)=true)=agn σ l
 |[]=>by simp[agn]
 |p::l=>by rw[cW,af,Ue σ l];rfl
def alA(σ:St):agn σ []=True:=rfl
def agJ(σ:St)(p:iT)(l:List iT):agn σ (p::l)=(again σ p=true/\agn σ l):=rfl
def aea(l:List Nat):List iT->List iT
 |[]=>[]
 |p::pd=>bif l.contains p.i then aea l pd else p::aea l pd
theorem agK(l:List Nat):∀pd:List iT,pd.filter (λp=>!(l.contains p.i))=aea l pd
 |[]=>rfl
 |p::pd=>by rw[List.filter_cons,aea,agK l pd];cases l.contains p.i<;>rfl
def alB(qs:List DO)(Q:Tr V->St->Prop):WL E pt dR bV (.fin qs) σ res pd Q=uZ dR bV qs σ res pd λσ res pd=>agn σ pd/\(match Ku bV res with|some tm=>Q tm σ|none=>False):=by grind[WL,uZ,Ue]
def alC(qs:List DO)(i:Nat)(us os:List Nat)(d:Option Nat)(g:Option (Nat×Bool))(op:vV)(r:Dr)(Q:Tr V->St->Prop):
  WL E pt dR bV (.act qs ⟨i,us,os,⟨d,g,op⟩⟩ r) σ res pd Q=uZ dR bV qs σ res pd λσ res pd=>agn σ pd/\(match MZ dR bV res us os with
   |some tm=>wpG E ⟨d,g,op⟩ tm σ λv σ'=>WL E pt dR bV r σ' (⟨i,d,v⟩::res) (aea (pt.getD i []) pd) Q
   |none=>False):=by
 grind[WL,uZ,Ue,agK]
def agL(b:B):adv b b=b.kn:=by
 cases b<;>simp[adv,B.kn]
 case int k n=>cases n<;>simp[eqI]
 case sl b o n c=>cases c<;>simp[eqC]
def ZV:∀l:List B,MX l l=l.all B.kn
 |[]=>rfl
 |b::l=>by rw[cW];unfold MX;rw[agL b,ZV l]
def alD(l:List B):eqV (.agg l) (.agg l)=l.all B.kn:=ZV l
def auM(b:B):eqV (.c b) (.c b)=b.kn:=agL b
def jh(i:Nat)(d:Option Nat)(g9:Option (Nat×Bool))(op:vV)(tm:Tr V)(v:V)(h:op.kind=.q)(h2:op.looks=false):again σ ⟨i,⟨d,g9,op⟩,tm,v,true,none⟩=true:=by grind[again]
def ZW(i:Nat)(d:Option Nat)(g9:Option (Nat×Bool))(n:Nat)(g:Bool)(x:O)(tm:Tr V)(v:V):again σ ⟨i,⟨d,g9,.load n g x⟩,tm,v,true,none⟩=match(match x.ev tm with|.c (.ptr b o)=>ld σ.h b o n g|_=>none)with|some u=>eqV u v|none=>false:=by rfl
def WY(i:Nat)(d:Option Nat)(g9:Option (Nat×Bool))(z:List B)(tm:Tr V)(v:V)(b:Nat):again σ ⟨i,⟨d,g9,.alloc z⟩,tm,v,true,some b⟩=match σ.h b with|some ⟨c,none⟩=>MX c z|_=>false:=by rfl
def aeb(i:Nat)(d:Option Nat)(g9:Option (Nat×Bool))(e n:Nat)(z:List B)(ps:List (Nat×Nat×O))(tm:Tr V)(v:V)(b:Nat)(hn:n*e<=16777216)(hn2:n<=16777216):again σ ⟨i,⟨d,g9,.bsl e n z ps⟩,tm,v,true,some b⟩=match CJ (rep z n) (ps.map λp=>(p.1,p.2.1,p.2.2.ev tm))with|some z=>(match σ.h b with|some ⟨c,none⟩=>MX c z|_=>false)|none=>false:=by grind[again,vV.kind,nN,xE]
end
def alE(σ:St)(i:Nat)(o:AO)(tm:Tr V)(v:V)(nm:Option Nat):again σ ⟨i,o,tm,v,false,nm⟩=true:=rfl
section
def E0:Env:=⟨λ_=>none,λ_ _ _=>none⟩
variable (dR bV tm:Tr V) (σ:St) (res:List Rs) (pd:List iT) (i:Nat) (us os:List Nat) (d:Option Nat) (g9:Option (Nat×Bool)) (l:List DO) (K:St→List Rs→List iT→Prop) (v:V)
def qR(g:Option (Nat×Bool))(dR bV:Tr V)(res:List Rs)(us os:List Nat)(σ:St)(pd:List iT)(i:Nat)(d:Option Nat)(op:vV)(l:List DO)(K:St->List Rs->List iT->Prop):Prop:=match MZ dR bV res us os with
 |some tm=>BP g tm (wpOp E0 op tm σ λv _=>uZ dR bV l σ (⟨i,d,v⟩::res) (⟨i,⟨d,g,op⟩,tm,v,true,none⟩::pd) K) (uZ dR bV l σ (⟨i,d,.tnil⟩::res) (⟨i,⟨d,g,op⟩,tm,.tnil,false,none⟩::pd) K)
 |none=>False
def auN(g:Option (Nat×Bool))(dR bV:Tr V)(res:List Rs)(us os:List Nat)(σ:St)(pd:List iT)(i:Nat)(d:Option Nat)(op:vV)(l:List DO)(K:St->List Rs->List iT->Prop):qR g dR bV res us os σ pd i d op l K=match MZ dR bV res us os with
 |some tm=>BP g tm (wpOp E0 op tm σ λv _=>uZ dR bV l σ (⟨i,d,v⟩::res) (⟨i,⟨d,g,op⟩,tm,v,true,none⟩::pd) K) (uZ dR bV l σ (⟨i,d,.tnil⟩::res) (⟨i,⟨d,g,op⟩,tm,.tnil,false,none⟩::pd) K)
 |none=>False:=rfl
def aqH(x:O):uZ dR bV (⟨i,us,os,⟨d,g9,.mov x⟩⟩::l) σ res pd K=qR g9 dR bV res us os σ pd i d (.mov x) l K:=qy E0 _ _ _ _ _ _ _ _ _ _ _ _ _ rfl
def aqI(x:O):again σ ⟨i,⟨d,g9,.mov x⟩,tm,v,true,none⟩=true:=jh _ _ _ _ _ _ _ rfl rfl
def alF(c a b:O):uZ dR bV (⟨i,us,os,⟨d,g9,.pick c a b⟩⟩::l) σ res pd K=qR g9 dR bV res us os σ pd i d (.pick c a b) l K:=qy E0 _ _ _ _ _ _ _ _ _ _ _ _ _ rfl
def alG(c a b:O):again σ ⟨i,⟨d,g9,.pick c a b⟩,tm,v,true,none⟩=true:=jh _ _ _ _ _ _ _ rfl rfl
def alH(n:Nat)(g:Bool)(x:O):uZ dR bV (⟨i,us,os,⟨d,g9,.load n g x⟩⟩::l) σ res pd K=qR g9 dR bV res us os σ pd i d (.load n g x) l K:=qy E0 _ _ _ _ _ _ _ _ _ _ _ _ _ rfl
def agM(n:Nat)(x:O):uZ dR bV (⟨i,us,os,⟨d,g9,.CG n x⟩⟩::l) σ res pd K=qR g9 dR bV res us os σ pd i d (.CG n x) l K:=qy E0 _ _ _ _ _ _ _ _ _ _ _ _ _ rfl
def agN(n:Nat)(x:O):again σ ⟨i,⟨d,g9,.CG n x⟩,tm,v,true,none⟩=true:=jh _ _ _ _ _ _ _ rfl rfl
def agO(o n:Nat)(g:Bool)(x:O):uZ dR bV (⟨i,us,os,⟨d,g9,.field o n g x⟩⟩::l) σ res pd K=qR g9 dR bV res us os σ pd i d (.field o n g x) l K:=qy E0 _ _ _ _ _ _ _ _ _ _ _ _ _ rfl
def agP(o n:Nat)(g:Bool)(x:O):again σ ⟨i,⟨d,g9,.field o n g x⟩,tm,v,true,none⟩=true:=jh _ _ _ _ _ _ _ rfl rfl
def agQ(e:Nat)(x j:O):uZ dR bV (⟨i,us,os,⟨d,g9,.Fj e x j⟩⟩::l) σ res pd K=qR g9 dR bV res us os σ pd i d (.Fj e x j) l K:=qy E0 _ _ _ _ _ _ _ _ _ _ _ _ _ rfl
def agR(e:Nat)(x j:O):again σ ⟨i,⟨d,g9,.Fj e x j⟩,tm,v,true,none⟩=true:=jh _ _ _ _ _ _ _ rfl rfl
def aqJ(n:Nat)(x:O):uZ dR bV (⟨i,us,os,⟨d,g9,.ext n x⟩⟩::l) σ res pd K=qR g9 dR bV res us os σ pd i d (.ext n x) l K:=qy E0 _ _ _ _ _ _ _ _ _ _ _ _ _ rfl
def aqK(n:Nat)(x:O):again σ ⟨i,⟨d,g9,.ext n x⟩,tm,v,true,none⟩=true:=jh _ _ _ _ _ _ _ rfl rfl
def aqL(b:BinOp)(x y:O):uZ dR bV (⟨i,us,os,⟨d,g9,.bin b x y⟩⟩::l) σ res pd K=qR g9 dR bV res us os σ pd i d (.bin b x y) l K:=qy E0 _ _ _ _ _ _ _ _ _ _ _ _ _ rfl
def aqM(b:BinOp)(x y:O):again σ ⟨i,⟨d,g9,.bin b x y⟩,tm,v,true,none⟩=true:=jh _ _ _ _ _ _ _ rfl rfl
def aqN(p:Bool)(x y:O):uZ dR bV (⟨i,us,os,⟨d,g9,.eqb p x y⟩⟩::l) σ res pd K=qR g9 dR bV res us os σ pd i d (.eqb p x y) l K:=qy E0 _ _ _ _ _ _ _ _ _ _ _ _ _ rfl
def aqO(p:Bool)(x y:O):again σ ⟨i,⟨d,g9,.eqb p x y⟩,tm,v,true,none⟩=true:=jh _ _ _ _ _ _ _ rfl rfl
def agS(p:Bool)(x y:O):uZ dR bV (⟨i,us,os,⟨d,g9,.Fp p x y⟩⟩::l) σ res pd K=qR g9 dR bV res us os σ pd i d (.Fp p x y) l K:=qy E0 _ _ _ _ _ _ _ _ _ _ _ _ _ rfl
def agT(p:Bool)(x y:O):again σ ⟨i,⟨d,g9,.Fp p x y⟩,tm,v,true,none⟩=true:=jh _ _ _ _ _ _ _ rfl rfl
def agU(p:Bool)(x y:O):uZ dR bV (⟨i,us,os,⟨d,g9,.GV p x y⟩⟩::l) σ res pd K=qR g9 dR bV res us os σ pd i d (.GV p x y) l K:=qy E0 _ _ _ _ _ _ _ _ _ _ _ _ _ rfl
def agV(p:Bool)(x y:O):again σ ⟨i,⟨d,g9,.GV p x y⟩,tm,v,true,none⟩=true:=jh _ _ _ _ _ _ _ rfl rfl
def aqP(k:Nat)(p:Bool)(x:O):uZ dR bV (⟨i,us,os,⟨d,g9,.nil k p x⟩⟩::l) σ res pd K=qR g9 dR bV res us os σ pd i d (.nil k p x) l K:=qy E0 _ _ _ _ _ _ _ _ _ _ _ _ _ rfl
def aqQ(k:Nat)(p:Bool)(x:O):again σ ⟨i,⟨d,g9,.nil k p x⟩,tm,v,true,none⟩=true:=jh _ _ _ _ _ _ _ rfl rfl
def aqR(x:O):uZ dR bV (⟨i,us,os,⟨d,g9,.not x⟩⟩::l) σ res pd K=qR g9 dR bV res us os σ pd i d (.not x) l K:=qy E0 _ _ _ _ _ _ _ _ _ _ _ _ _ rfl
def aqS(x:O):again σ ⟨i,⟨d,g9,.not x⟩,tm,v,true,none⟩=true:=jh _ _ _ _ _ _ _ rfl rfl
def alI(k:IntKind)(x:O):uZ dR bV (⟨i,us,os,⟨d,g9,.conv k x⟩⟩::l) σ res pd K=qR g9 dR bV res us os σ pd i d (.conv k x) l K:=qy E0 _ _ _ _ _ _ _ _ _ _ _ _ _ rfl
def alJ(k:IntKind)(x:O):again σ ⟨i,⟨d,g9,.conv k x⟩,tm,v,true,none⟩=true:=jh _ _ _ _ _ _ _ rfl rfl
def agW(z:List B)(ps:List (Nat×Nat×O)):uZ dR bV (⟨i,us,os,⟨d,g9,.build z ps⟩⟩::l) σ res pd K=qR g9 dR bV res us os σ pd i d (.build z ps) l K:=qy E0 _ _ _ _ _ _ _ _ _ _ _ _ _ rfl
def agX(z:List B)(ps:List (Nat×Nat×O)):again σ ⟨i,⟨d,g9,.build z ps⟩,tm,v,true,none⟩=true:=jh _ _ _ _ _ _ _ rfl rfl
def alK(f:Nat)(cs:List O):uZ dR bV (⟨i,us,os,⟨d,g9,.PU f cs⟩⟩::l) σ res pd K=qR g9 dR bV res us os σ pd i d (.PU f cs) l K:=qy E0 _ _ _ _ _ _ _ _ _ _ _ _ _ rfl
def alL(f:Nat)(cs:List O):again σ ⟨i,⟨d,g9,.PU f cs⟩,tm,v,true,none⟩=true:=jh _ _ _ _ _ _ _ rfl rfl
def aqT(x:O):uZ dR bV (⟨i,us,os,⟨d,g9,.len x⟩⟩::l) σ res pd K=qR g9 dR bV res us os σ pd i d (.len x) l K:=qy E0 _ _ _ _ _ _ _ _ _ _ _ _ _ rfl
def aqU(x:O):again σ ⟨i,⟨d,g9,.len x⟩,tm,v,true,none⟩=true:=jh _ _ _ _ _ _ _ rfl rfl
def agY(e:Nat)(x:O)(lo hi mx:Option O):uZ dR bV (⟨i,us,os,⟨d,g9,.slice e x lo hi mx⟩⟩::l) σ res pd K=qR g9 dR bV res us os σ pd i d (.slice e x lo hi mx) l K:=qy E0 _ _ _ _ _ _ _ _ _ _ _ _ _ rfl
def agZ(e:Nat)(x:O)(lo hi mx:Option O):again σ ⟨i,⟨d,g9,.slice e x lo hi mx⟩,tm,v,true,none⟩=true:=jh _ _ _ _ _ _ _ rfl rfl
def alM(x:O):uZ dR bV (⟨i,us,os,⟨d,g9,.PV x⟩⟩::l) σ res pd K=qR g9 dR bV res us os σ pd i d (.PV x) l K:=qy E0 _ _ _ _ _ _ _ _ _ _ _ _ _ rfl
def alN(x:O):again σ ⟨i,⟨d,g9,.PV x⟩,tm,v,true,none⟩=true:=jh _ _ _ _ _ _ _ rfl rfl
def alO(x y:O):uZ dR bV (⟨i,us,os,⟨d,g9,.min2 x y⟩⟩::l) σ res pd K=qR g9 dR bV res us os σ pd i d (.min2 x y) l K:=qy E0 _ _ _ _ _ _ _ _ _ _ _ _ _ rfl
def alP(x y:O):again σ ⟨i,⟨d,g9,.min2 x y⟩,tm,v,true,none⟩=true:=jh _ _ _ _ _ _ _ rfl rfl
end
def aqV{E:Env}{tm:Tr V}{σ:St}{Q:AX->Tr V->St->Prop}{d:Dr}{pt:List (List Nat)}{ds:List Nat}(h:WL E pt tm (ZT tm ds) d σ [] [] λtm' σ'=>Q .normal tm' σ'):bP E (.drawn d pt ds) tm σ Q:=
 adM _ (Jj tm ds) h
end Go.Proofs.Xe
end
