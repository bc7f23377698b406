import Derived.Test.YthkggcakedkboaaGreatDoorZ9
set_option linter.all false
noncomputable section
namespace Go.Proofs.Xe
open Go.RowKit Go.Proofs.Ins
def adk(tm:Tr V)(d:Nat)(v:V):Tr.ah (En tm (some d) v) d=v:=by grind[Tr.ah,En,Tr.tu]
def akB(tm:Tr V)(d j:Nat)(v:V)(h:j≠d):Tr.ah (En tm (some d) v) j=Tr.ah tm j:=by grind[Tr.ah,En,Tr.tu]
def adl(tm:Tr V)(v:V):En tm none v=tm:=rfl
def adn(a:V)(l:List V):Tr.ah (ini (a::l)) 0=a:=by grind[Tr.ah,GR]
def ado(a b:V)(l:List V):Tr.ah (ini (a::b::l)) 1=b:=by grind[Tr.ah,GR]
def adp(a b c:V)(l:List V):Tr.ah (ini (a::b::c::l)) 2=c:=by grind[Tr.ah,GR]
def adq(a b c d:V)(l:List V):Tr.ah (ini (a::b::c::d::l)) 3=d:=by grind[Tr.ah,GR]
def adr(a b c d e:V)(l:List V):Tr.ah (ini (a::b::c::d::e::l)) 4=e:=by grind[Tr.ah,GR]
def awr(tm:Tr V)(i:Nat):O.ev tm (.t i)=Tr.ah tm i:=rfl
def awt(tm:Tr V)(v:V):O.ev tm (.k v)=v:=rfl
def z3(l:List B):(B.bool false::s0::s0::l)=(.bool (rn 0):: .str (rs 0):: .str (rd 0)::l):=rfl
def hset(h:Tr Bk)(b:Nat)(k:Bk):Tr Bk:=h.set b (some k)
theorem aA(h:Tr Bk)(b:Nat)(k:Bk):hset h b k b=some k:=by grind[hset,Tr.tu]
theorem au(h:Tr Bk)(b j:Nat)(k:Bk)(e:j≠b):hset h b k j=h j:=by grind[hset,Tr.tu]
def ld(h:Tr Bk)(b o n:Nat)(g:Bool):Option V:=match h b with|some k=>bif k.rd then yY k.cells o n g else none|none=>none
def sto(h:Tr Bk)(b o:Nat)(vs:List B):Option (Tr Bk):=match h b with
 |some k=>(match bif k.pl then xX k.cells o vs else none with|some l=>some (hset h b ⟨l,k.opn⟩)|none=>none)
 |none=>none
def afW(n:Nat)(g:Bool)(x:O)(tm:Tr V)(σ:St):aaY n g x tm σ=match x.ev tm with|.c (.ptr b o)=>ld σ.h b o n g|_=>none:=rfl
theorem ads(n:Nat)(a x:O)(tm:Tr V)(σ:St):uf (.store n a x) tm σ=match a.ev tm,(x.ev tm).cells with
  |.c (.ptr b o),some vs=>bif Nat.beq vs.length n then(match sto σ.h b o vs with|some h=>some (.und,⟨h,σ.aj⟩)|none=>none)else none
  |_,_=>none:=by
 unfold uf sto
 dsimp only
 generalize O.ev tm a=va
 generalize (O.ev tm x).cells=vc
 cases vc with
 |none=>simp
 |some vs=>
  split
  .next b o vs' e=>
   cases e
   dsimp only
   cases Nat.beq vs.length n with
   |false=>rfl
   |true=>
    simp only[cC]
    cases σ.h b with
    |none=>rfl
    |some k=>
     dsimp only
     cases(bif k.pl then xX k.cells o vs else none)with
     |none=>rfl
     |some l=>rfl
  simp
theorem jL(σ:St)(k:Bk):σ.new k=some (σ.aj,⟨hset σ.h σ.aj k,σ.aj+1⟩):=by rfl
def akC(h:Tr Bk)(b:Nat)(k:Bk)(o n:Nat)(g:Bool):ld (hset h b k) b o n g=bif k.rd then yY k.cells o n g else none:=by unfold ld;rw[aA]
def atj(h:Tr Bk)(b j:Nat)(k:Bk)(o n:Nat)(g:Bool)(e:j≠b):ld (hset h b k) j o n g=ld h j o n g:=by grind[ld,au]
def afX(h:Tr Bk)(b:Nat)(k:Bk)(o:Nat)(vs:List B):sto (hset h b k) b o vs=match bif k.pl then xX k.cells o vs else none with|some l=>some (hset (hset h b k) b ⟨l,k.opn⟩)|none=>none:=by unfold sto;rw[aA]
def apc(h:Tr Bk)(b j:Nat)(k:Bk)(o:Nat)(vs:List B)(e:j≠b):sto (hset h b k) j o vs=match h j with|some k'=>(match bif k'.pl then xX k'.cells o vs else none with|some l=>some (hset (hset h b k) j ⟨l,k'.opn⟩)|none=>none)|none=>none:=by grind[sto,au]
def awu{α:Sort _}(a b:α):(bif true then a else b)=a:=rfl
def awv{α:Sort _}(a b:α):(bif false then a else b)=b:=rfl
theorem ES{a b:Nat}(h:a<b):Nat.blt a b=true:=fg h
theorem vI{a b:Nat}(h:a<=b):Nat.ble a b=true:=fg h
theorem aa9(a:Nat):Nat.beq a a=true:=by simp
theorem Nb{a b:Nat}(h:a≠b):Nat.beq a b=false:=by grind[Nat.eq_of_beq_eq_true]
theorem Tc{n:Nat}(h:n<=9223372036854775807):mkI .i64 (.ofNat n)=some (.c (.int .i64 (.ofNat n))):=by grind[mkI,anD,IC,vI]
def add_ofNat(a b:Nat):(Int.ofNat a+Int.ofNat b)=Int.ofNat (a+b):=rfl
def aG(a b:Nat):decide (Int.ofNat a<Int.ofNat b)=decide (a<b):=by simp
def WF(σ:St):Prop:=∀b,σ.aj<=b->σ.h b=none
structure Fr(σ σ':St):Prop where
 le:σ.aj<=σ'.aj
 wf:WF σ'
 old:∀b,b<σ.aj->σ'.h b=σ.h b
theorem Fr.refl{σ:St}(h:WF σ):Fr σ σ:=⟨jp,h,λ_ _=>rfl⟩
def Fr.trans{σ σ' MH:St}(h:Fr σ σ')(h':Fr σ' MH):Fr σ MH:=⟨aw h.le h'.le,h'.wf,λb hb=>(h'.old b (aL hb h.le)).trans (h.old b hb)⟩
def WF.lt{σ:St}(h:WF σ){b:Nat}{k:Bk}(hb:σ.h b=some k):b<σ.aj:=by refine Nat.lt_of_not_le λe=>?_;rw[h b e]at hb;cases hb
def WF.cZ{σ:St}(h:WF σ){b o n:Nat}{g:Bool}{v:V}(hb:ld σ.h b o n g=some v):b<σ.aj:=by
 unfold ld at hb;split at hb
 .next k hk=>exact h.lt hk
 grind
theorem Fr.ld{σ σ':St}(h:WF σ)(hf:Fr σ σ'){b o n:Nat}{g:Bool}{v:V}(hb:Xe.ld σ.h b o n g=some v):Xe.ld σ'.h b o n g=some v:=by have hlt:=h.cZ hb;unfold Xe.ld at hb⊢;rw[hf.old b hlt];exact hb
def Fr.get{σ σ':St}(h:WF σ)(hf:Fr σ σ'){b:Nat}{k:Bk}(hb:σ.h b=some k):σ'.h b=some k:=by rw[hf.old b (h.lt hb)];exact hb
def Fr.new{σ σ':St}(hf:Fr σ σ')(k:Bk):Fr σ ⟨hset σ'.h σ'.aj k,σ'.aj+1⟩:=
 ⟨Nat.le_succ_of_le hf.le,λb hb=>by
  have hb:σ'.aj+1<=b:=hb;show hset σ'.h σ'.aj k b=none;rw[au _ _ _ _ jb];exact hf.wf b jb,λb hb=>by
  show hset σ'.h σ'.aj k b=_;have:=hf.le;rw[au _ _ _ _ jb];exact hf.old b hb⟩
def Fr.set{σ σ':St}(hf:Fr σ σ'){b:Nat}(hb:σ.aj<=b)(hb2:b<σ'.aj)(k:Bk):Fr σ ⟨hset σ'.h b k,σ'.aj⟩:=
 ⟨hf.le,λj hj=>by
  have hj:σ'.aj<=j:=hj;show hset σ'.h b k j=none;rw[au _ _ _ _ jb];exact hf.wf j hj,λj hj=>by
  show hset σ'.h b k j=_;rw[au _ _ _ _ jb];exact hf.old j hj⟩
def HL(h:Tr Bk)(e:Nat)(v:B)(n:Nat)(G:Nat->List B):Prop:=
 (n=0/\v=.aV)\/∃b o c,v=.sl b o n c/\∀i,i<n->ld h b (o+i*e) e true=some (.agg (G i))
def HC(h:Tr Bk)(v:B)(n:Nat)(G:Nat->B):Prop:=
 (n=0/\v=.aV)\/∃b o c,v=.sl b o n c/\∀i,i<n->ld h b (o+i*1) 1 false=some (.c (G i))
def lenV:V->Option V
 |.c (.sl _ _ n _)=>some (.c (.int .i64 (.ofNat n)))
 |.c .aV=>some (.c (.int .i64 (.ofNat 0)))
 |_=>none
def akD(b o n:Nat)(c:Cap):lenV (.c (.sl b o n c))=some (.c (.int .i64 (.ofNat n))):=rfl
def adt:lenV (.c .aV)=some (.c (.int .i64 (.ofNat 0))):=rfl
def HL.len{h:Tr Bk}{e:Nat}{v:B}{n:Nat}{G:Nat->List B}(hl:HL h e v n G):lenV (.c v)=some (.c (.int .i64 (.ofNat n))):=by rcases hl with⟨rfl,rfl⟩|⟨b,o,c,rfl,-⟩<;>rfl
def HC.len{h:Tr Bk}{v:B}{n:Nat}{G:Nat->B}(hl:HC h v n G):lenV (.c v)=some (.c (.int .i64 (.ofNat n))):=by rcases hl with⟨rfl,rfl⟩|⟨b,o,c,rfl,-⟩<;>rfl
def HL.pos{h:Tr Bk}{e:Nat}{v:B}{n:Nat}{G:Nat->List B}(hl:HL h e v n G)(hn:0<n):∃b o c,v=.sl b o n c/\∀i,i<n->ld h b (o+i*e) e true=some (.agg (G i)):=by
 rcases hl with⟨rfl,-⟩|h
 .omega
 .exact h
def HC.pos{h:Tr Bk}{v:B}{n:Nat}{G:Nat->B}(hl:HC h v n G)(hn:0<n):∃b o c,v=.sl b o n c/\∀i,i<n->ld h b (o+i*1) 1 false=some (.c (G i)):=by
 rcases hl with⟨rfl,-⟩|h
 .omega
 .exact h
theorem HL.fr{σ σ':St}(hW:WF σ)(hf:Fr σ σ'){e:Nat}{v:B}{n:Nat}{G:Nat->List B}(hl:HL σ.h e v n G):HL σ'.h e v n G:=by
 rcases hl with h|⟨b,o,c,rfl,h⟩
 .exact .inl h
 .exact .inr ⟨b,o,c,rfl,λi hi=>hf.ld hW (h i hi)⟩
theorem HC.fr{σ σ':St}(hW:WF σ)(hf:Fr σ σ'){v:B}{n:Nat}{G:Nat->B}(hl:HC σ.h v n G):HC σ'.h v n G:=by
 rcases hl with h|⟨b,o,c,rfl,h⟩
 .exact .inl h
 .exact .inr ⟨b,o,c,rfl,λi hi=>hf.ld hW (h i hi)⟩
section
variable (E:Env)
def adu(tm:Tr V)(σ:St)(Q:Tr V->St->Prop):wpOps E [] tm σ Q=Q tm σ:=rfl
def wpOps_cons(o:AO)(r:List AO)(tm:Tr V)(σ:St)(Q:Tr V->St->Prop):wpOps E (o::r) tm σ Q=wpG E o tm σ λv σ'=>wpOps E r (En tm o.dst v) σ' Q:=rfl
variable (tm:Tr V) (σ:St) (K:V→St→Prop)
def FX(o:Option V)(K:V->Prop):Prop:=match o with|some v=>K v|none=>False
def afY(v:V)(K:V->Prop):FX (some v) K=K v:=rfl
theorem iC{op:vF}(h:op.kind=.q)(h2:∀g l,op≠.call g l):wpOp E op tm σ K=FX (dA op tm σ) λv=>K v σ:=by unfold wpOp;grind[oJ,FX]
def ape(c a b:O):wpOp E (.pick c a b) tm σ K=FX (match c.ev tm with|.c (.bool t)=>some (bif t then a.ev tm else b.ev tm)|_=>none) λv=>K v σ:=iC _ _ _ _ rfl λ_ _ h=>by cases h
def o_load(n:Nat)(g:Bool)(x:O):wpOp E (.load n g x) tm σ K=FX (match x.ev tm with|.c (.ptr b o)=>ld σ.h b o n g|_=>none) λv=>K v σ:=iC _ _ _ _ rfl λ_ _ h=>by cases h
def akE(off:Nat)(x:O):wpOp E (.BJ off x) tm σ K=FX (match x.ev tm with|.c (.ptr b o)=>some (.c (.ptr b (o+off)))|_=>none) λv=>K v σ:=by rw[iC _ _ _ _ (by rfl) λ_ _ h=>by cases h];grind[dA,YZ,qw]
def akF(off n:Nat)(g:Bool)(x:O):wpOp E (.field off n g x) tm σ K=FX (match x.ev tm with|.agg l=>yY l off n g|_=>none) λv=>K v σ:=iC _ _ _ _ rfl λ_ _ h=>by cases h
def iaV(e:Nat)(v:V)(i:V):Option V:=match v,JD i with|.c (.sl b o n _),some j=>(bif Nat.blt j n then some (.c (.ptr b (o+j*e)))else none)|_,_=>none
def akG(e:Nat)(x i:O):wpOp E (.EJ e x i) tm σ K=FX (iaV e (x.ev tm) (i.ev tm)) λv=>K v σ:=by rw[iC _ _ _ _ (by rfl) λ_ _ h=>by cases h];unfold dA Y0 iaV;grind[qw]
def apf(e b o n j:Nat)(c:Cap)(h:j<n):iaV e (.c (.sl b o n c)) (.c (.int .i64 (.ofNat j)))=some (.c (.ptr b (o+j*e))):=by simp_all[iaV,JD,ES]
def atl(i:Nat)(x:O):wpOp E (.ext i x) tm σ K=FX (afp i x tm) λv=>K v σ:=iC _ _ _ _ rfl λ_ _ h=>by cases h
def afZ:Nat->V->Option V
 |0,.aX a _=>some a
 |1,.aX _ (.aX a _)=>some a
 |2,.aX _ (.aX _ (.aX a _))=>some a
 |_,_=>none
def apg(i:Nat)(x:O)(tm:Tr V):afp i x tm=afZ i (x.ev tm):=by unfold afp afZ;grind
def aph(a r:V):afZ 0 (.aX a r)=some a:=rfl
def apj(a b r:V):afZ 1 (.aX a (.aX b r))=some b:=rfl
def apk(a b c r:V):afZ 2 (.aX a (.aX b (.aX c r)))=some c:=rfl
def atm(b:BinOp)(x y:O):wpOp E (.bin b x y) tm σ K=FX (oI b (x.ev tm) (y.ev tm)) λv=>K v σ:=iC _ _ _ _ rfl λ_ _ h=>by cases h
def atn(a b:Int):oI .lss (.c (.int .i64 a)) (.c (.int .i64 b))=some (.c (.bool (decide (a<b)))):=rfl
def ato(a b:Int):oI .gtr (.c (.int .i64 a)) (.c (.int .i64 b))=some (.c (.bool (decide (b<a)))):=rfl
def atp(a b:Int):oI .leq (.c (.int .i64 a)) (.c (.int .i64 b))=some (.c (.bool (decide (a<=b)))):=rfl
def atq(a b:Int):oI .geq (.c (.int .i64 a)) (.c (.int .i64 b))=some (.c (.bool (decide (b<=a)))):=rfl
def atr(a b:Int):oI .eql (.c (.int .i64 a)) (.c (.int .i64 b))=some (.c (.bool (decide (a=b)))):=rfl
def att(a b:Int):oI .neq (.c (.int .i64 a)) (.c (.int .i64 b))=some (.c (.bool (!decide (a=b)))):=rfl
def apl(a b:ByteArray):oI .eql (.c (.str a)) (.c (.str b))=some (.c (.bool (decide (a=b)))):=rfl
def apm(a b:ByteArray):oI .neq (.c (.str a)) (.c (.str b))=some (.c (.bool (!decide (a=b)))):=rfl
def atu(a b:Nat)(h:a+b<=9223372036854775807):oI .add (.c (.int .i64 (.ofNat a))) (.c (.int .i64 (.ofNat b)))=some (.c (.int .i64 (.ofNat (a+b)))):=by show mkI .i64 (Int.ofNat a+Int.ofNat b)=_;rw[add_ofNat,Tc h]
def atv(a b:Nat)(h:a<=9223372036854775807)(h2:b<=a):oI .sub (.c (.int .i64 (.ofNat a))) (.c (.int .i64 (.ofNat b)))=some (.c (.int .i64 (.ofNat (a-b)))):=by show mkI .i64 (Int.ofNat a-Int.ofNat b)=_;grind[Tc]
def atw(p:Bool)(x y:O):wpOp E (.eqb p x y) tm σ K=FX (match x.ev tm,y.ev tm with|.c (.bool a),.c (.bool b)=>some (.c (.bool (p==(a==b))))|_,_=>none) λv=>K v σ:=iC _ _ _ _ rfl λ_ _ h=>by cases h
def akH(p:Bool)(x y:O):wpOp E (.EL p x y) tm σ K=FX (match x.ev tm,y.ev tm with|.agg l,.agg r=>(match eqB l r with|some b=>some (.c (.bool (p==b)))|none=>none)|_,_=>none) λv=>K v σ:=iC _ _ _ _ rfl λ_ _ h=>by cases h
def apn(a b c d:Int):eqL [.int .i64 a,.int .i64 b] [.int .i64 c,.int .i64 d]=some (decide (a=c)&&decide (b=d)):=rfl
def akI(p q:Rat):eqB [.bool (rn p),.str (rs p),.str (rd p)] [.bool (rn q),.str (rs q),.str (rd q)]=some (decide (p=q)):=by grind[eqB,eqS,decide,YG]
def atx(k:Nat)(p:Bool)(v:V):Option V:=match k,v with
 |0,.c (.sl ..)=>some (.c (.bool (!p)))
 |0,.c .aV=>some (.c (.bool p))
 |1,.c (.ptr ..)=>some (.c (.bool (!p)))
 |1,.c .Sr=>some (.c (.bool p))
 |2,.fn ..=>some (.c (.bool (!p)))
 |2,.LX=>some (.c (.bool p))
 |_,_=>none
def aty(k:Nat)(p:Bool)(x:O):wpOp E (.nil k p x) tm σ K=FX (atx k p (x.ev tm)) λv=>K v σ:=iC _ _ _ _ rfl λ_ _ h=>by cases h
def atz(x:O):wpOp E (.not x) tm σ K=FX (match x.ev tm with|.c (.bool b)=>some (.c (.bool !b))|_=>none) λv=>K v σ:=iC _ _ _ _ rfl λ_ _ h=>by cases h
def akJ(z:List B)(ps:List (Nat×Nat×O)):wpOp E (.build z ps) tm σ K=FX (match BK z (ps.map λp=>(p.1,p.2.1,p.2.2.ev tm))with|some l=>some (.agg l)|none=>none) λv=>K v σ:=iC _ _ _ _ rfl λ_ _ h=>by cases h
def apo(f:Nat)(cs:List O):wpOp E (.O7 f cs) tm σ K=FX (match YX tm cs with|some l=>some (.fn f l)|none=>none) λv=>K v σ:=iC _ _ _ _ rfl λ_ _ h=>by cases h
def atA(x:O):wpOp E (.len x) tm σ K=FX (lenV (x.ev tm)) λv=>K v σ:=iC _ _ _ _ rfl λ_ _ h=>by cases h
def apq(x:O):wpOp E (.O8 x) tm σ K=FX (match x.ev tm with|.c (.ptr b o)=>some (.c (.ptr b o))|.fn f l=>some (.fn f l)|_=>none) λv=>K v σ:=iC _ _ _ _ rfl λ_ _ h=>by cases h
def akK(z:List B):wpOp E (.alloc z) tm σ K=K (.c (.ptr σ.aj 0)) ⟨hset σ.h σ.aj ⟨z,none⟩,σ.aj+1⟩:=by rfl
def atB(x:O):wpOp E (.box x) tm σ K=match(x.ev tm).cells with|some l=>K (.c (.ptr σ.aj 0)) ⟨hset σ.h σ.aj ⟨l,none⟩,σ.aj+1⟩|none=>False:=by grind[wpOp,oJ,vF.kind,nC,jL]
def apr(bytes:Nat)(z:List B)(l c:O):wpOp E (.JO bytes z l c) tm σ K=match JD (l.ev tm),JD (c.ev tm)with
  |some n,some m=>(bif Nat.ble n m&&(Nat.ble (bytes*m) 281474976710656&&Nat.ble m 1073741824)then K (.c (.sl σ.aj 0 n (.ex m))) ⟨hset σ.h σ.aj ⟨rep z m,none⟩,σ.aj+1⟩else False)
  |_,_=>False:=by
 grind[wpOp,oJ,vF.kind,nC,jL]
def atC(e n:Nat)(z:List B)(ps:List (Nat×Nat×O))(h:n*e<=16777216)(h':n<=16777216):wpOp E (.bsl e n z ps) tm σ K=match BK (rep z n) (ps.map λp=>(p.1,p.2.1,p.2.2.ev tm))with
  |some l=>K (.c (.sl σ.aj 0 n (.ex n))) ⟨hset σ.h σ.aj ⟨l,none⟩,σ.aj+1⟩|none=>False:=by
 grind[wpOp,oJ,vF.kind,nC,jL,vI]
def akL(n:Nat)(a x:O):wpOp E (.store n a x) tm σ K=match a.ev tm,(x.ev tm).cells with
  |.c (.ptr b o),some vs=>(bif Nat.beq vs.length n then(match sto σ.h b o vs with|some h=>K .und ⟨h,σ.aj⟩|none=>False)else False)
  |_,_=>False:=by
 grind[wpOp,oJ,vF.kind,ads]
def aps(g:O)(args:List O):wpOp E (.call g args) tm σ K=match g.ev tm with|.fn f caps=>aC E f (args.map (·.ev tm)++caps.map .c) σ K|_=>False:=rfl
end
def Zh(tm:Tr V):List Nat->Tr V
 |[]=>tm
 |d::l=>(Zh tm l).set d none
def IX(tm:Tr V):∀ds,Ac tm ds=some (Zh tm ds)
 |[]=>rfl
 |d::l=>by unfold Ac;rw[IX tm l];rfl
theorem abb(tm:Tr V)(j:Nat):∀ds:List Nat,ds.contains j=false->(Zh tm ds).get j=tm.get j
 |[],_=>rfl
 |d::l,h=>by rw[List.contains_cons,Bool.or_eq_false_iff]at h;show((Zh tm l).set d none).get j=_;rw[Tr.tu,ae (by simpa using h.1),abb tm j l h.2]
def af0(tm:Tr V)(ds:List Nat)(j:Nat)(h:ds.contains j=false):Tr.ah (Zh tm ds) j=Tr.ah tm j:=by grind[Tr.ah,abb]
def fnd:List Rs->Nat->Option Rs
 |[],_=>none
 |r::l,u=>bif Nat.beq r.i u then some r else fnd l u
def Wh(u:Nat):∀l:List Rs,l.find? (λr=>Nat.beq r.i u)=fnd l u
 |[]=>rfl
 |r::l=>by rw[List.find?_cons,fnd,Wh u l];cases Nat.beq r.i u<;>rfl
def tmO:Option (Tr V)->Option Rs->Option (Tr V)
 |some tm,some r=>some (En tm r.d r.v)
 |_,_=>none
def af2(bM:Tr V)(res:List Rs):IG bM res []=some bM:=rfl
def adv(bM:Tr V)(res:List Rs)(u:Nat)(us:List Nat):IG bM res (u::us)=tmO (IG bM res us) (fnd res u):=by
 rw[IG,Wh];cases IG bM res us with
 |none=>rfl
 |some tm=>
  cases fnd res u with
  |none=>rfl
  |some r=>show IE tm r.d r.v=_;rw[Kv];rfl
def af4(tm:Tr V)(i:Nat)(d:Option Nat)(v:V):tmO (some tm) (some ⟨i,d,v⟩)=some (En tm d v):=rfl
def akM(i:Nat)(d:Option Nat)(v:V)(l:List Rs):fnd (⟨i,d,v⟩::l) i=some ⟨i,d,v⟩:=by unfold fnd;simp
def af5(i u:Nat)(d:Option Nat)(v:V)(l:List Rs)(h:i≠u):fnd (⟨i,d,v⟩::l) u=fnd l u:=by grind[fnd,Nb]
def adw(dH tm:Tr V):EM dH tm []=some tm:=rfl
def Zi(dH tm:Tr V)(t:Nat)(l:List Nat):EM dH tm (t::l)=match EM dH tm l with|some tm=>some (En tm (some t) (dH.ah t))|none=>none:=by rfl
def apt(dH bM:Tr V)(res:List Rs)(us os:List Nat):L8 dH bM res us os=match IG bM res us with|some tm=>EM dH tm os|none=>none:=rfl
def af6(bM:Tr V):JQ bM []=some bM:=rfl
def adx(bM:Tr V)(i:Nat)(d:Option Nat)(v:V)(l:List Rs):JQ bM (⟨i,d,v⟩::l)=match JQ bM l with|some tm=>some (En tm d v)|none=>none:=by grind[JQ,Kv]
def Bf(g:Option (Nat×Bool))(tm:Tr V)(A B:Prop):Prop:=match gate g tm with|some true=>A|some false=>B|none=>False
def gsV(v:V)(b:Bool)(A B:Prop):Prop:=match v with|.c (.bool c)=>(bif c==b then A else B)|.tnil=>B|_=>False
def apu(tm:Tr V)(A B:Prop):Bf none tm A B=A:=rfl
def apv(t:Nat)(b:Bool)(tm:Tr V)(A B:Prop):Bf (some (t,b)) tm A B=gsV (tm.ah t) b A B:=by grind[Bf,gsV,gate]
def apw(A B:Prop):gsV (.c (.bool true)) true A B=A:=rfl
def apx(A B:Prop):gsV (.c (.bool true)) false A B=B:=rfl
def apy(A B:Prop):gsV (.c (.bool false)) true A B=B:=rfl
def apz(A B:Prop):gsV (.c (.bool false)) false A B=A:=rfl
def akN(b:Bool)(A B:Prop):gsV .tnil b A B=B:=rfl
def abd{p:Prop}[Decidable p]{A B:Prop}(h1:p->A)(h2:¬p->B):gsV (.c (.bool (decide p))) true A B:=by
 by_cases h:p
 .rw[bw h];exact h1 h
 .rw[az h];exact h2 h
def Wi{p:Prop}[Decidable p]{A B:Prop}(h1:p->B)(h2:¬p->A):gsV (.c (.bool (decide p))) false A B:=by
 by_cases h:p
 .rw[bw h];exact h1 h
 .rw[az h];exact h2 h
def uH(dH bM:Tr V)(qs:List DO)(σ:St)(res:List Rs)(pd:List iO)(K:St->List Rs->List iO->Prop):Prop:=
 match xM dH bM qs σ res pd with
 |some (σ,res,pd)=>K σ res pd
 |none=>False
def akO(dH bM:Tr V)(σ:St)(res:List Rs)(pd:List iO)(K:St->List Rs->List iO->Prop):uH dH bM [] σ res pd K=K σ res pd:=rfl
section
variable (E:Env) (pt:List (List Nat)) (dH bM:Tr V) (σ:St) (res:List Rs) (pd:List iO)
def pV(i:Nat)(us os:List Nat)(d:Option Nat)(g:Option (Nat×Bool))(op:vF)(l:List DO)(K:St->List Rs->List iO->Prop)(h:op.kind=.q):
  uH dH bM (⟨i,us,os,⟨d,g,op⟩⟩::l) σ res pd K=match L8 dH bM res us os with
   |some tm=>Bf g tm (wpOp E op tm σ λv _=>uH dH bM l σ (⟨i,d,v⟩::res) (⟨i,⟨d,g,op⟩,tm,v,true,none⟩::pd) K) (uH dH bM l σ (⟨i,d,.tnil⟩::res) (⟨i,⟨d,g,op⟩,tm,.tnil,false,none⟩::pd) K)
   |none=>False:=by
 unfold uH Bf
 rw[xM]
 dsimp only
 cases L8 dH bM res us os with
 |none=>rfl
 |some tm=>
  dsimp only
  have hc:∀g l,op≠.call g l:=λg l e=>by rw[e]at h;cases h
  grind[iC,FX]
def ady(i:Nat)(us os:List Nat)(d:Option Nat)(g:Option (Nat×Bool))(z:List B)(l:List DO)(K:St->List Rs->List iO->Prop):
  uH dH bM (⟨i,us,os,⟨d,g,.alloc z⟩⟩::l) σ res pd K=match L8 dH bM res us os with
   |some tm=>Bf g tm (uH dH bM l ⟨hset σ.h σ.aj ⟨z,none⟩,σ.aj+1⟩ (⟨i,d,.c (.ptr σ.aj 0)⟩::res) (⟨i,⟨d,g,.alloc z⟩,tm,.c (.ptr σ.aj 0),true,some σ.aj⟩::pd) K)
    (uH dH bM l σ (⟨i,d,.tnil⟩::res) (⟨i,⟨d,g,.alloc z⟩,tm,.tnil,false,none⟩::pd) K)
   |none=>False:=by
 unfold uH Bf
 rw[xM]
 dsimp only
 cases L8 dH bM res us os with
 |none=>rfl
 |some tm=>
  grind[vF.kind,nC,jL]
def akP(i:Nat)(us os:List Nat)(d:Option Nat)(g:Option (Nat×Bool))(x:O)(l:List DO)(K:St->List Rs->List iO->Prop):
  uH dH bM (⟨i,us,os,⟨d,g,.box x⟩⟩::l) σ res pd K=match L8 dH bM res us os with
   |some tm=>Bf g tm (match(x.ev tm).cells with
    |some z=>uH dH bM l ⟨hset σ.h σ.aj ⟨z,none⟩,σ.aj+1⟩ (⟨i,d,.c (.ptr σ.aj 0)⟩::res) (⟨i,⟨d,g,.box x⟩,tm,.c (.ptr σ.aj 0),true,some σ.aj⟩::pd) K
    |none=>False) (uH dH bM l σ (⟨i,d,.tnil⟩::res) (⟨i,⟨d,g,.box x⟩,tm,.tnil,false,none⟩::pd) K)
   |none=>False:=by
 unfold uH Bf
 rw[xM]
 dsimp only
 cases L8 dH bM res us os with
 |none=>rfl
 |some tm=>
  grind[vF.kind,nC,jL]
def akQ(i:Nat)(us os:List Nat)(d:Option Nat)(g:Option (Nat×Bool))(e n:Nat)(z:List B)(ps:List (Nat×Nat×O))(l:List DO)(K:St->List Rs->List iO->Prop)(hn:n*e<=16777216)(hn2:n<=16777216):
  uH dH bM (⟨i,us,os,⟨d,g,.bsl e n z ps⟩⟩::l) σ res pd K=match L8 dH bM res us os with
   |some tm=>Bf g tm (match BK (rep z n) (ps.map λp=>(p.1,p.2.1,p.2.2.ev tm))with
    |some c=>uH dH bM l ⟨hset σ.h σ.aj ⟨c,none⟩,σ.aj+1⟩ (⟨i,d,.c (.sl σ.aj 0 n (.ex n))⟩::res) (⟨i,⟨d,g,.bsl e n z ps⟩,tm,.c (.sl σ.aj 0 n (.ex n)),true,some σ.aj⟩::pd) K
    |none=>False) (uH dH bM l σ (⟨i,d,.tnil⟩::res) (⟨i,⟨d,g,.bsl e n z ps⟩,tm,.tnil,false,none⟩::pd) K)
   |none=>False:=by
 unfold uH Bf
 rw[xM]
 dsimp only
 cases L8 dH bM res us os with
 |none=>rfl
 |some tm=>
  grind[vF.kind,nC,vI,jL]
def agn(σ:St):List iO->Prop
 |[]=>True
 |p::l=>again σ p=true/\agn σ l
theorem Td(σ:St):∀l:List iO,(l.all (again σ)=true)=agn σ l
 |[]=>by simp[agn]
 |p::l=>by rw[cT,af,Td σ l];rfl
def akR(σ:St):agn σ []=True:=rfl
def af7(σ:St)(p:iO)(l:List iO):agn σ (p::l)=(again σ p=true/\agn σ l):=rfl
def adz(l:List Nat):List iO->List iO
 |[]=>[]
 |p::pd=>bif l.contains p.i then adz l pd else p::adz l pd
theorem af8(l:List Nat):∀pd:List iO,pd.filter (λp=>!(l.contains p.i))=adz l pd
 |[]=>rfl
 |p::pd=>by rw[List.filter_cons,adz,af8 l pd];cases l.contains p.i<;>rfl
def akS(qs:List DO)(Q:Tr V->St->Prop):VX E pt dH bM (.fin qs) σ res pd Q=uH dH bM qs σ res pd λσ res pd=>agn σ pd/\(match JQ bM res with|some tm=>Q tm σ|none=>False):=by grind[VX,uH,Td]
def akT(qs:List DO)(i:Nat)(us os:List Nat)(d:Option Nat)(g:Option (Nat×Bool))(op:vF)(r:Dr)(Q:Tr V->St->Prop):
  VX E pt dH bM (.act qs ⟨i,us,os,⟨d,g,op⟩⟩ r) σ res pd Q=uH dH bM qs σ res pd λσ res pd=>agn σ pd/\(match L8 dH bM res us os with
   |some tm=>wpG E ⟨d,g,op⟩ tm σ λv σ'=>VX E pt dH bM r σ' (⟨i,d,v⟩::res) (adz (pt.getD i []) pd) Q
   |none=>False):=by
 grind[VX,uH,Td,af8]
def af9(b:B):acW b b=b.kn:=by
 cases b<;>simp[acW,B.kn]
 case int k n=>cases n<;>simp[eqI]
 case sl b o n c=>cases c<;>simp[eqC]
def Zj:∀l:List B,L6 l l=l.all B.kn
 |[]=>rfl
 |b::l=>by rw[cT];unfold L6;rw[af9 b,Zj l]
def akU(l:List B):eqV (.agg l) (.agg l)=l.all B.kn:=Zj l
def atD(b:B):eqV (.c b) (.c b)=b.kn:=af9 b
def jc(i:Nat)(d:Option Nat)(g9:Option (Nat×Bool))(op:vF)(tm:Tr V)(v:V)(h:op.kind=.q)(h2:op.looks=false):again σ ⟨i,⟨d,g9,op⟩,tm,v,true,none⟩=true:=by grind[again]
def Zl(i:Nat)(d:Option Nat)(g9:Option (Nat×Bool))(n:Nat)(g:Bool)(x:O)(tm:Tr V)(v:V):again σ ⟨i,⟨d,g9,.load n g x⟩,tm,v,true,none⟩=match(match x.ev tm with|.c (.ptr b o)=>ld σ.h b o n g|_=>none)with|some u=>eqV u v|none=>false:=by rfl
def Wj(i:Nat)(d:Option Nat)(g9:Option (Nat×Bool))(z:List B)(tm:Tr V)(v:V)(b:Nat):again σ ⟨i,⟨d,g9,.alloc z⟩,tm,v,true,some b⟩=match σ.h b with|some ⟨c,none⟩=>L6 c z|_=>false:=by rfl
def adA(i:Nat)(d:Option Nat)(g9:Option (Nat×Bool))(e n:Nat)(z:List B)(ps:List (Nat×Nat×O))(tm:Tr V)(v:V)(b:Nat)(hn:n*e<=16777216)(hn2:n<=16777216):again σ ⟨i,⟨d,g9,.bsl e n z ps⟩,tm,v,true,some b⟩=match BK (rep z n) (ps.map λp=>(p.1,p.2.1,p.2.2.ev tm))with|some z=>(match σ.h b with|some ⟨c,none⟩=>L6 c z|_=>false)|none=>false:=by grind[again,vF.kind,nC,vI]
end
def akV(σ:St)(i:Nat)(o:AO)(tm:Tr V)(v:V)(nm:Option Nat):again σ ⟨i,o,tm,v,false,nm⟩=true:=rfl
section
def E0:Env:=⟨λ_=>none,λ_ _ _=>none⟩
variable (dH bM tm:Tr V) (σ:St) (res:List Rs) (pd:List iO) (i:Nat) (us os:List Nat) (d:Option Nat) (g9:Option (Nat×Bool)) (l:List DO) (K:St→List Rs→List iO→Prop) (v:V)
def qR(g:Option (Nat×Bool))(dH bM:Tr V)(res:List Rs)(us os:List Nat)(σ:St)(pd:List iO)(i:Nat)(d:Option Nat)(op:vF)(l:List DO)(K:St->List Rs->List iO->Prop):Prop:=match L8 dH bM res us os with
 |some tm=>Bf g tm (wpOp E0 op tm σ λv _=>uH dH bM l σ (⟨i,d,v⟩::res) (⟨i,⟨d,g,op⟩,tm,v,true,none⟩::pd) K) (uH dH bM l σ (⟨i,d,.tnil⟩::res) (⟨i,⟨d,g,op⟩,tm,.tnil,false,none⟩::pd) K)
 |none=>False
def atE(g:Option (Nat×Bool))(dH bM:Tr V)(res:List Rs)(us os:List Nat)(σ:St)(pd:List iO)(i:Nat)(d:Option Nat)(op:vF)(l:List DO)(K:St->List Rs->List iO->Prop):qR g dH bM res us os σ pd i d op l K=match L8 dH bM res us os with
 |some tm=>Bf g tm (wpOp E0 op tm σ λv _=>uH dH bM l σ (⟨i,d,v⟩::res) (⟨i,⟨d,g,op⟩,tm,v,true,none⟩::pd) K) (uH dH bM l σ (⟨i,d,.tnil⟩::res) (⟨i,⟨d,g,op⟩,tm,.tnil,false,none⟩::pd) K)
 |none=>False:=rfl
def apC(x:O):uH dH bM (⟨i,us,os,⟨d,g9,.mov x⟩⟩::l) σ res pd K=qR g9 dH bM res us os σ pd i d (.mov x) l K:=pV E0 _ _ _ _ _ _ _ _ _ _ _ _ _ rfl
def apD(x:O):again σ ⟨i,⟨d,g9,.mov x⟩,tm,v,true,none⟩=true:=jc _ _ _ _ _ _ _ rfl rfl
def akW(c a b:O):uH dH bM (⟨i,us,os,⟨d,g9,.pick c a b⟩⟩::l) σ res pd K=qR g9 dH bM res us os σ pd i d (.pick c a b) l K:=pV E0 _ _ _ _ _ _ _ _ _ _ _ _ _ rfl
def akX(c a b:O):again σ ⟨i,⟨d,g9,.pick c a b⟩,tm,v,true,none⟩=true:=jc _ _ _ _ _ _ _ rfl rfl
def akY(n:Nat)(g:Bool)(x:O):uH dH bM (⟨i,us,os,⟨d,g9,.load n g x⟩⟩::l) σ res pd K=qR g9 dH bM res us os σ pd i d (.load n g x) l K:=pV E0 _ _ _ _ _ _ _ _ _ _ _ _ _ rfl
def aga(n:Nat)(x:O):uH dH bM (⟨i,us,os,⟨d,g9,.BJ n x⟩⟩::l) σ res pd K=qR g9 dH bM res us os σ pd i d (.BJ n x) l K:=pV E0 _ _ _ _ _ _ _ _ _ _ _ _ _ rfl
def agb(n:Nat)(x:O):again σ ⟨i,⟨d,g9,.BJ n x⟩,tm,v,true,none⟩=true:=jc _ _ _ _ _ _ _ rfl rfl
def agc(o n:Nat)(g:Bool)(x:O):uH dH bM (⟨i,us,os,⟨d,g9,.field o n g x⟩⟩::l) σ res pd K=qR g9 dH bM res us os σ pd i d (.field o n g x) l K:=pV E0 _ _ _ _ _ _ _ _ _ _ _ _ _ rfl
def agd(o n:Nat)(g:Bool)(x:O):again σ ⟨i,⟨d,g9,.field o n g x⟩,tm,v,true,none⟩=true:=jc _ _ _ _ _ _ _ rfl rfl
def agf(e:Nat)(x j:O):uH dH bM (⟨i,us,os,⟨d,g9,.EJ e x j⟩⟩::l) σ res pd K=qR g9 dH bM res us os σ pd i d (.EJ e x j) l K:=pV E0 _ _ _ _ _ _ _ _ _ _ _ _ _ rfl
def agh(e:Nat)(x j:O):again σ ⟨i,⟨d,g9,.EJ e x j⟩,tm,v,true,none⟩=true:=jc _ _ _ _ _ _ _ rfl rfl
def apE(n:Nat)(x:O):uH dH bM (⟨i,us,os,⟨d,g9,.ext n x⟩⟩::l) σ res pd K=qR g9 dH bM res us os σ pd i d (.ext n x) l K:=pV E0 _ _ _ _ _ _ _ _ _ _ _ _ _ rfl
def apG(n:Nat)(x:O):again σ ⟨i,⟨d,g9,.ext n x⟩,tm,v,true,none⟩=true:=jc _ _ _ _ _ _ _ rfl rfl
def apI(b:BinOp)(x y:O):uH dH bM (⟨i,us,os,⟨d,g9,.bin b x y⟩⟩::l) σ res pd K=qR g9 dH bM res us os σ pd i d (.bin b x y) l K:=pV E0 _ _ _ _ _ _ _ _ _ _ _ _ _ rfl
def apJ(b:BinOp)(x y:O):again σ ⟨i,⟨d,g9,.bin b x y⟩,tm,v,true,none⟩=true:=jc _ _ _ _ _ _ _ rfl rfl
def apL(p:Bool)(x y:O):uH dH bM (⟨i,us,os,⟨d,g9,.eqb p x y⟩⟩::l) σ res pd K=qR g9 dH bM res us os σ pd i d (.eqb p x y) l K:=pV E0 _ _ _ _ _ _ _ _ _ _ _ _ _ rfl
def apO(p:Bool)(x y:O):again σ ⟨i,⟨d,g9,.eqb p x y⟩,tm,v,true,none⟩=true:=jc _ _ _ _ _ _ _ rfl rfl
def agi(p:Bool)(x y:O):uH dH bM (⟨i,us,os,⟨d,g9,.EL p x y⟩⟩::l) σ res pd K=qR g9 dH bM res us os σ pd i d (.EL p x y) l K:=pV E0 _ _ _ _ _ _ _ _ _ _ _ _ _ rfl
def agj(p:Bool)(x y:O):again σ ⟨i,⟨d,g9,.EL p x y⟩,tm,v,true,none⟩=true:=jc _ _ _ _ _ _ _ rfl rfl
def agk(p:Bool)(x y:O):uH dH bM (⟨i,us,os,⟨d,g9,.Gp p x y⟩⟩::l) σ res pd K=qR g9 dH bM res us os σ pd i d (.Gp p x y) l K:=pV E0 _ _ _ _ _ _ _ _ _ _ _ _ _ rfl
def agl(p:Bool)(x y:O):again σ ⟨i,⟨d,g9,.Gp p x y⟩,tm,v,true,none⟩=true:=jc _ _ _ _ _ _ _ rfl rfl
def apP(k:Nat)(p:Bool)(x:O):uH dH bM (⟨i,us,os,⟨d,g9,.nil k p x⟩⟩::l) σ res pd K=qR g9 dH bM res us os σ pd i d (.nil k p x) l K:=pV E0 _ _ _ _ _ _ _ _ _ _ _ _ _ rfl
def apQ(k:Nat)(p:Bool)(x:O):again σ ⟨i,⟨d,g9,.nil k p x⟩,tm,v,true,none⟩=true:=jc _ _ _ _ _ _ _ rfl rfl
def apS(x:O):uH dH bM (⟨i,us,os,⟨d,g9,.not x⟩⟩::l) σ res pd K=qR g9 dH bM res us os σ pd i d (.not x) l K:=pV E0 _ _ _ _ _ _ _ _ _ _ _ _ _ rfl
def apU(x:O):again σ ⟨i,⟨d,g9,.not x⟩,tm,v,true,none⟩=true:=jc _ _ _ _ _ _ _ rfl rfl
def akZ(k:IntKind)(x:O):uH dH bM (⟨i,us,os,⟨d,g9,.conv k x⟩⟩::l) σ res pd K=qR g9 dH bM res us os σ pd i d (.conv k x) l K:=pV E0 _ _ _ _ _ _ _ _ _ _ _ _ _ rfl
def ak0(k:IntKind)(x:O):again σ ⟨i,⟨d,g9,.conv k x⟩,tm,v,true,none⟩=true:=jc _ _ _ _ _ _ _ rfl rfl
def agm(z:List B)(ps:List (Nat×Nat×O)):uH dH bM (⟨i,us,os,⟨d,g9,.build z ps⟩⟩::l) σ res pd K=qR g9 dH bM res us os σ pd i d (.build z ps) l K:=pV E0 _ _ _ _ _ _ _ _ _ _ _ _ _ rfl
def agp(z:List B)(ps:List (Nat×Nat×O)):again σ ⟨i,⟨d,g9,.build z ps⟩,tm,v,true,none⟩=true:=jc _ _ _ _ _ _ _ rfl rfl
def ak1(f:Nat)(cs:List O):uH dH bM (⟨i,us,os,⟨d,g9,.O7 f cs⟩⟩::l) σ res pd K=qR g9 dH bM res us os σ pd i d (.O7 f cs) l K:=pV E0 _ _ _ _ _ _ _ _ _ _ _ _ _ rfl
def ak2(f:Nat)(cs:List O):again σ ⟨i,⟨d,g9,.O7 f cs⟩,tm,v,true,none⟩=true:=jc _ _ _ _ _ _ _ rfl rfl
def apV(x:O):uH dH bM (⟨i,us,os,⟨d,g9,.len x⟩⟩::l) σ res pd K=qR g9 dH bM res us os σ pd i d (.len x) l K:=pV E0 _ _ _ _ _ _ _ _ _ _ _ _ _ rfl
def apW(x:O):again σ ⟨i,⟨d,g9,.len x⟩,tm,v,true,none⟩=true:=jc _ _ _ _ _ _ _ rfl rfl
def agq(e:Nat)(x:O)(lo hi mx:Option O):uH dH bM (⟨i,us,os,⟨d,g9,.slice e x lo hi mx⟩⟩::l) σ res pd K=qR g9 dH bM res us os σ pd i d (.slice e x lo hi mx) l K:=pV E0 _ _ _ _ _ _ _ _ _ _ _ _ _ rfl
def ags(e:Nat)(x:O)(lo hi mx:Option O):again σ ⟨i,⟨d,g9,.slice e x lo hi mx⟩,tm,v,true,none⟩=true:=jc _ _ _ _ _ _ _ rfl rfl
def ak3(x:O):uH dH bM (⟨i,us,os,⟨d,g9,.O8 x⟩⟩::l) σ res pd K=qR g9 dH bM res us os σ pd i d (.O8 x) l K:=pV E0 _ _ _ _ _ _ _ _ _ _ _ _ _ rfl
def ak4(x:O):again σ ⟨i,⟨d,g9,.O8 x⟩,tm,v,true,none⟩=true:=jc _ _ _ _ _ _ _ rfl rfl
def ak5(x y:O):uH dH bM (⟨i,us,os,⟨d,g9,.min2 x y⟩⟩::l) σ res pd K=qR g9 dH bM res us os σ pd i d (.min2 x y) l K:=pV E0 _ _ _ _ _ _ _ _ _ _ _ _ _ rfl
def ak6(x y:O):again σ ⟨i,⟨d,g9,.min2 x y⟩,tm,v,true,none⟩=true:=jc _ _ _ _ _ _ _ rfl rfl
end
def apX{E:Env}{tm:Tr V}{σ:St}{Q:AX->Tr V->St->Prop}{d:Dr}{pt:List (List Nat)}{ds:List Nat}(h:VX E pt tm (Zh tm ds) d σ [] [] λtm' σ'=>Q .normal tm' σ'):bH E (.drawn d pt ds) tm σ Q:=
 ade _ (IX tm ds) h
end Go.Proofs.Xe
end
