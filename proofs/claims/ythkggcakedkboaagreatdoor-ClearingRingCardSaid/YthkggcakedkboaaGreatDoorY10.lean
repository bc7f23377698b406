import Derived.Test.YthkggcakedkboaaGreatDoorY9
set_option linter.all false
noncomputable section
namespace Go.Proofs.Xe
open Go.RowKit Go.Proofs.Ins
def abZ(tm:Tr V)(d:Nat)(v:V):Tr.ah (Du tm (some d) v) d=v:=by grind[Tr.ah,Du,Tr.rJ]
def ajg(tm:Tr V)(d j:Nat)(v:V)(h:j≠d):Tr.ah (Du tm (some d) v) j=Tr.ah tm j:=by grind[Tr.ah,Du,Tr.rJ]
def ab1(tm:Tr V)(v:V):Du tm none v=tm:=rfl
def ab2(a:V)(l:List V):Tr.ah (ini (a::l)) 0=a:=by grind[Tr.ah,FB]
def ab3(a b:V)(l:List V):Tr.ah (ini (a::b::l)) 1=b:=by grind[Tr.ah,FB]
def ab4(a b c:V)(l:List V):Tr.ah (ini (a::b::c::l)) 2=c:=by grind[Tr.ah,FB]
def ab5(a b c d:V)(l:List V):Tr.ah (ini (a::b::c::d::l)) 3=d:=by grind[Tr.ah,FB]
def ab6(a b c d e:V)(l:List V):Tr.ah (ini (a::b::c::d::e::l)) 4=e:=by grind[Tr.ah,FB]
def auA(tm:Tr V)(i:Nat):O.ev tm (.t i)=Tr.ah tm i:=rfl
def auB(tm:Tr V)(v:V):O.ev tm (.k v)=v:=rfl
def z3(l:List B):(B.bool false::s0::s0::l)=(.bool (rn 0):: .str (rs 0):: .str (rd 0)::l):=rfl
def hset(h:Tr Bk)(b:Nat)(k:Bk):Tr Bk:=h.set b (some k)
theorem aB(h:Tr Bk)(b:Nat)(k:Bk):hset h b k b=some k:=by grind[hset,Tr.rJ]
theorem au(h:Tr Bk)(b j:Nat)(k:Bk)(e:j≠b):hset h b k j=h j:=by grind[hset,Tr.rJ]
def ld(h:Tr Bk)(b o n:Nat)(g:Bool):Option V:=match h b with|some k=>bif k.rd then Au k.cells o n g else none|none=>none
def sto(h:Tr Bk)(b o:Nat)(vs:List B):Option (Tr Bk):=match h b with
 |some k=>(match bif k.pl then yc k.cells o vs else none with|some l=>some (hset h b ⟨l,k.opn⟩)|none=>none)
 |none=>none
def aeL(n:Nat)(g:Bool)(x:O)(tm:Tr V)(σ:St):ZN n g x tm σ=match x.ev tm with|.c (.ptr b o)=>ld σ.h b o n g|_=>none:=rfl
theorem ab7(n:Nat)(a x:O)(tm:Tr V)(σ:St):rY (.store n a x) tm σ=match a.ev tm,(x.ev tm).cells with
  |.c (.ptr b o),some vs=>bif Nat.beq vs.length n then(match sto σ.h b o vs with|some h=>some (.und,⟨h,σ.aj⟩)|none=>none)else none
  |_,_=>none:=by
 unfold rY sto
 dsimp only
 generalize O.ev tm a=va
 generalize (O.ev tm x).cells=vc
 cases vc with
 |none=>simp
 |some vs=>
  split
  .next b o vs' e=>
   cases e
   dsimp only
   cases Nat.beq vs.length n with
   |false=>rfl
   |true=>
    simp only[cg]
    cases σ.h b with
    |none=>rfl
    |some k=>
     dsimp only
     cases(bif k.pl then yc k.cells o vs else none)with
     |none=>rfl
     |some l=>rfl
  simp
theorem jv(σ:St)(k:Bk):σ.new k=some (σ.aj,⟨hset σ.h σ.aj k,σ.aj+1⟩):=by rfl
def ajh(h:Tr Bk)(b:Nat)(k:Bk)(o n:Nat)(g:Bool):ld (hset h b k) b o n g=bif k.rd then Au k.cells o n g else none:=by unfold ld;rw[aB]
def arq(h:Tr Bk)(b j:Nat)(k:Bk)(o n:Nat)(g:Bool)(e:j≠b):ld (hset h b k) j o n g=ld h j o n g:=by grind[ld,au]
def aeM(h:Tr Bk)(b:Nat)(k:Bk)(o:Nat)(vs:List B):sto (hset h b k) b o vs=match bif k.pl then yc k.cells o vs else none with|some l=>some (hset (hset h b k) b ⟨l,k.opn⟩)|none=>none:=by unfold sto;rw[aB]
def anL(h:Tr Bk)(b j:Nat)(k:Bk)(o:Nat)(vs:List B)(e:j≠b):sto (hset h b k) j o vs=match h j with|some k'=>(match bif k'.pl then yc k'.cells o vs else none with|some l=>some (hset (hset h b k) j ⟨l,k'.opn⟩)|none=>none)|none=>none:=by grind[sto,au]
def auC{α:Sort _}(a b:α):(bif true then a else b)=a:=rfl
def auD{α:Sort _}(a b:α):(bif false then a else b)=b:=rfl
theorem DY{a b:Nat}(h:a<b):Nat.blt a b=true:=eE h
theorem uj{a b:Nat}(h:a<=b):Nat.ble a b=true:=eE h
theorem aeN(a:Nat):Nat.beq a a=true:=by simp
theorem Lr{a b:Nat}(h:a≠b):Nat.beq a b=false:=by grind[Nat.eq_of_beq_eq_true]
def Z5{n:Nat}(h:n<=9223372036854775807):mkI .i64 (.ofNat n)=some (.c (.int .i64 (.ofNat n))):=by grind[mkI,al4,GV,uj]
def add_ofNat(a b:Nat):(Int.ofNat a+Int.ofNat b)=Int.ofNat (a+b):=rfl
def aH(a b:Nat):decide (Int.ofNat a<Int.ofNat b)=decide (a<b):=by simp
def WF(σ:St):Prop:=∀b,σ.aj<=b->σ.h b=none
structure Fr(σ σ':St):Prop where
 le:σ.aj<=σ'.aj
 wf:WF σ'
 old:∀b,b<σ.aj->σ'.h b=σ.h b
theorem Fr.refl{σ:St}(h:WF σ):Fr σ σ:=⟨jp,h,λ_ _=>rfl⟩
def Fr.trans{σ σ' KQ:St}(h:Fr σ σ')(h':Fr σ' KQ):Fr σ KQ:=⟨ag h.le h'.le,h'.wf,λb hb=>(h'.old b (aD hb h.le)).trans (h.old b hb)⟩
def WF.lt{σ:St}(h:WF σ){b:Nat}{k:Bk}(hb:σ.h b=some k):b<σ.aj:=by refine Nat.lt_of_not_le λe=>?_;rw[h b e]at hb;cases hb
def WF.dw{σ:St}(h:WF σ){b o n:Nat}{g:Bool}{v:V}(hb:ld σ.h b o n g=some v):b<σ.aj:=by
 unfold ld at hb;split at hb
 .next k hk=>exact h.lt hk
 grind
theorem Fr.ld{σ σ':St}(h:WF σ)(hf:Fr σ σ'){b o n:Nat}{g:Bool}{v:V}(hb:Xe.ld σ.h b o n g=some v):Xe.ld σ'.h b o n g=some v:=by have hlt:=h.dw hb;unfold Xe.ld at hb⊢;rw[hf.old b hlt];exact hb
def Fr.get{σ σ':St}(h:WF σ)(hf:Fr σ σ'){b:Nat}{k:Bk}(hb:σ.h b=some k):σ'.h b=some k:=by rw[hf.old b (h.lt hb)];exact hb
def Fr.new{σ σ':St}(hf:Fr σ σ')(k:Bk):Fr σ ⟨hset σ'.h σ'.aj k,σ'.aj+1⟩:=
 ⟨Nat.le_succ_of_le hf.le,λb hb=>by
  have hb:σ'.aj+1<=b:=hb;show hset σ'.h σ'.aj k b=none;rw[au _ _ _ _ jb];exact hf.wf b jb,λb hb=>by
  show hset σ'.h σ'.aj k b=_;have:=hf.le;rw[au _ _ _ _ jb];exact hf.old b hb⟩
def Fr.set{σ σ':St}(hf:Fr σ σ'){b:Nat}(hb:σ.aj<=b)(hb2:b<σ'.aj)(k:Bk):Fr σ ⟨hset σ'.h b k,σ'.aj⟩:=
 ⟨hf.le,λj hj=>by
  have hj:σ'.aj<=j:=hj;show hset σ'.h b k j=none;rw[au _ _ _ _ jb];exact hf.wf j hj,λj hj=>by
  show hset σ'.h b k j=_;rw[au _ _ _ _ jb];exact hf.old j hj⟩
def HL(h:Tr Bk)(e:Nat)(v:B)(n:Nat)(G:Nat->List B):Prop:=
 (n=0/\v=.bg)\/∃b o c,v=.sl b o n c/\∀i,i<n->ld h b (o+i*e) e true=some (.agg (G i))
def HC(h:Tr Bk)(v:B)(n:Nat)(G:Nat->B):Prop:=
 (n=0/\v=.bg)\/∃b o c,v=.sl b o n c/\∀i,i<n->ld h b (o+i*1) 1 false=some (.c (G i))
def lenV:V->Option V
 |.c (.sl _ _ n _)=>some (.c (.int .i64 (.ofNat n)))
 |.c .bg=>some (.c (.int .i64 (.ofNat 0)))
 |_=>none
def aji(b o n:Nat)(c:Cap):lenV (.c (.sl b o n c))=some (.c (.int .i64 (.ofNat n))):=rfl
def ab8:lenV (.c .bg)=some (.c (.int .i64 (.ofNat 0))):=rfl
def HL.len{h:Tr Bk}{e:Nat}{v:B}{n:Nat}{G:Nat->List B}(hl:HL h e v n G):lenV (.c v)=some (.c (.int .i64 (.ofNat n))):=by rcases hl with⟨rfl,rfl⟩|⟨b,o,c,rfl,-⟩<;>rfl
def HC.len{h:Tr Bk}{v:B}{n:Nat}{G:Nat->B}(hl:HC h v n G):lenV (.c v)=some (.c (.int .i64 (.ofNat n))):=by rcases hl with⟨rfl,rfl⟩|⟨b,o,c,rfl,-⟩<;>rfl
def HL.pos{h:Tr Bk}{e:Nat}{v:B}{n:Nat}{G:Nat->List B}(hl:HL h e v n G)(hn:0<n):∃b o c,v=.sl b o n c/\∀i,i<n->ld h b (o+i*e) e true=some (.agg (G i)):=by
 rcases hl with⟨rfl,-⟩|h
 .omega
 .exact h
def HC.pos{h:Tr Bk}{v:B}{n:Nat}{G:Nat->B}(hl:HC h v n G)(hn:0<n):∃b o c,v=.sl b o n c/\∀i,i<n->ld h b (o+i*1) 1 false=some (.c (G i)):=by
 rcases hl with⟨rfl,-⟩|h
 .omega
 .exact h
theorem HL.fr{σ σ':St}(hW:WF σ)(hf:Fr σ σ'){e:Nat}{v:B}{n:Nat}{G:Nat->List B}(hl:HL σ.h e v n G):HL σ'.h e v n G:=by
 rcases hl with h|⟨b,o,c,rfl,h⟩
 .exact .inl h
 .exact .inr ⟨b,o,c,rfl,λi hi=>hf.ld hW (h i hi)⟩
theorem HC.fr{σ σ':St}(hW:WF σ)(hf:Fr σ σ'){v:B}{n:Nat}{G:Nat->B}(hl:HC σ.h v n G):HC σ'.h v n G:=by
 rcases hl with h|⟨b,o,c,rfl,h⟩
 .exact .inl h
 .exact .inr ⟨b,o,c,rfl,λi hi=>hf.ld hW (h i hi)⟩
section
variable (E:Env)
def ab9(tm:Tr V)(σ:St)(Q:Tr V->St->Prop):wpOps E [] tm σ Q=Q tm σ:=rfl
def wpOps_cons(o:AO)(r:List AO)(tm:Tr V)(σ:St)(Q:Tr V->St->Prop):wpOps E (o::r) tm σ Q=wpG E o tm σ λv σ'=>wpOps E r (Du tm o.dst v) σ' Q:=rfl
variable (tm:Tr V) (σ:St) (K:V→St→Prop)
def EF(o:Option V)(K:V->Prop):Prop:=match o with|some v=>K v|none=>False
def aeO(v:V)(K:V->Prop):EF (some v) K=K v:=rfl
theorem gV{op:uf}(h:op.kind=.q)(h2:∀g l,op≠.call g l):wpOp E op tm σ K=EF (bY op tm σ) λv=>K v σ:=by unfold wpOp;grind[nP,EF]
def anM(c a b:O):wpOp E (.pick c a b) tm σ K=EF (match c.ev tm with|.c (.bool t)=>some (bif t then a.ev tm else b.ev tm)|_=>none) λv=>K v σ:=gV _ _ _ _ rfl λ_ _ h=>by cases h
def o_load(n:Nat)(g:Bool)(x:O):wpOp E (.load n g x) tm σ K=EF (match x.ev tm with|.c (.ptr b o)=>ld σ.h b o n g|_=>none) λv=>K v σ:=gV _ _ _ _ rfl λ_ _ h=>by cases h
def ajj(off:Nat)(x:O):wpOp E (.Ar off x) tm σ K=EF (match x.ev tm with|.c (.ptr b o)=>some (.c (.ptr b (o+off)))|_=>none) λv=>K v σ:=by rw[gV _ _ _ _ (by rfl) λ_ _ h=>by cases h];grind[bY,XJ,oU]
def ajk(off n:Nat)(g:Bool)(x:O):wpOp E (.field off n g x) tm σ K=EF (match x.ev tm with|.agg l=>Au l off n g|_=>none) λv=>K v σ:=gV _ _ _ _ rfl λ_ _ h=>by cases h
def iaV(e:Nat)(v:V)(i:V):Option V:=match v,IK i with|.c (.sl b o n _),some j=>(bif Nat.blt j n then some (.c (.ptr b (o+j*e)))else none)|_,_=>none
def ajl(e:Nat)(x i:O):wpOp E (.DT e x i) tm σ K=EF (iaV e (x.ev tm) (i.ev tm)) λv=>K v σ:=by rw[gV _ _ _ _ (by rfl) λ_ _ h=>by cases h];unfold bY XK iaV;grind[oU]
def anN(e b o n j:Nat)(c:Cap)(h:j<n):iaV e (.c (.sl b o n c)) (.c (.int .i64 (.ofNat j)))=some (.c (.ptr b (o+j*e))):=by simp_all[iaV,IK,DY]
def ars(i:Nat)(x:O):wpOp E (.ext i x) tm σ K=EF (aec i x tm) λv=>K v σ:=gV _ _ _ _ rfl λ_ _ h=>by cases h
def aeP:Nat->V->Option V
 |0,.aV a _=>some a
 |1,.aV _ (.aV a _)=>some a
 |2,.aV _ (.aV _ (.aV a _))=>some a
 |_,_=>none
def anO(i:Nat)(x:O)(tm:Tr V):aec i x tm=aeP i (x.ev tm):=by unfold aec aeP;grind
def anP(a r:V):aeP 0 (.aV a r)=some a:=rfl
def anQ(a b r:V):aeP 1 (.aV a (.aV b r))=some b:=rfl
def anR(a b c r:V):aeP 2 (.aV a (.aV b (.aV c r)))=some c:=rfl
def aru(b:BinOp)(x y:O):wpOp E (.bin b x y) tm σ K=EF (rX b (x.ev tm) (y.ev tm)) λv=>K v σ:=gV _ _ _ _ rfl λ_ _ h=>by cases h
def arv(a b:Int):rX .lss (.c (.int .i64 a)) (.c (.int .i64 b))=some (.c (.bool (decide (a<b)))):=rfl
def arw(a b:Int):rX .gtr (.c (.int .i64 a)) (.c (.int .i64 b))=some (.c (.bool (decide (b<a)))):=rfl
def arx(a b:Int):rX .leq (.c (.int .i64 a)) (.c (.int .i64 b))=some (.c (.bool (decide (a<=b)))):=rfl
def arz(a b:Int):rX .geq (.c (.int .i64 a)) (.c (.int .i64 b))=some (.c (.bool (decide (b<=a)))):=rfl
def arA(a b:Int):rX .eql (.c (.int .i64 a)) (.c (.int .i64 b))=some (.c (.bool (decide (a=b)))):=rfl
def arB(a b:Int):rX .neq (.c (.int .i64 a)) (.c (.int .i64 b))=some (.c (.bool (!decide (a=b)))):=rfl
def anS(a b:ByteArray):rX .eql (.c (.str a)) (.c (.str b))=some (.c (.bool (decide (a=b)))):=rfl
def anT(a b:ByteArray):rX .neq (.c (.str a)) (.c (.str b))=some (.c (.bool (!decide (a=b)))):=rfl
def arC(a b:Nat)(h:a+b<=9223372036854775807):rX .add (.c (.int .i64 (.ofNat a))) (.c (.int .i64 (.ofNat b)))=some (.c (.int .i64 (.ofNat (a+b)))):=by show mkI .i64 (Int.ofNat a+Int.ofNat b)=_;rw[add_ofNat,Z5 h]
def arD(p:Bool)(x y:O):wpOp E (.eqb p x y) tm σ K=EF (match x.ev tm,y.ev tm with|.c (.bool a),.c (.bool b)=>some (.c (.bool (p==(a==b))))|_,_=>none) λv=>K v σ:=gV _ _ _ _ rfl λ_ _ h=>by cases h
def ajm(p:Bool)(x y:O):wpOp E (.DU p x y) tm σ K=EF (match x.ev tm,y.ev tm with|.agg l,.agg r=>(match eqB l r with|some b=>some (.c (.bool (p==b)))|none=>none)|_,_=>none) λv=>K v σ:=gV _ _ _ _ rfl λ_ _ h=>by cases h
def anU(a b c d:Int):eqL [.int .i64 a,.int .i64 b] [.int .i64 c,.int .i64 d]=some (decide (a=c)&&decide (b=d)):=rfl
def ajn(p q:Rat):eqB [.bool (rn p),.str (rs p),.str (rd p)] [.bool (rn q),.str (rs q),.str (rd q)]=some (decide (p=q)):=by grind[eqB,eqS,decide,Xt]
def arE(k:Nat)(p:Bool)(v:V):Option V:=match k,v with
 |0,.c (.sl ..)=>some (.c (.bool (!p)))
 |0,.c .bg=>some (.c (.bool p))
 |1,.c (.ptr ..)=>some (.c (.bool (!p)))
 |1,.c .Qy=>some (.c (.bool p))
 |2,.fn ..=>some (.c (.bool (!p)))
 |2,.KA=>some (.c (.bool p))
 |_,_=>none
def arF(k:Nat)(p:Bool)(x:O):wpOp E (.nil k p x) tm σ K=EF (arE k p (x.ev tm)) λv=>K v σ:=gV _ _ _ _ rfl λ_ _ h=>by cases h
def arG(x:O):wpOp E (.not x) tm σ K=EF (match x.ev tm with|.c (.bool b)=>some (.c (.bool !b))|_=>none) λv=>K v σ:=gV _ _ _ _ rfl λ_ _ h=>by cases h
def ajo(z:List B)(ps:List (Nat×Nat×O)):wpOp E (.build z ps) tm σ K=EF (match Az z (ps.map λp=>(p.1,p.2.1,p.2.2.ev tm))with|some l=>some (.agg l)|none=>none) λv=>K v σ:=gV _ _ _ _ rfl λ_ _ h=>by cases h
def anV(f:Nat)(cs:List O):wpOp E (.N7 f cs) tm σ K=EF (match XI tm cs with|some l=>some (.fn f l)|none=>none) λv=>K v σ:=gV _ _ _ _ rfl λ_ _ h=>by cases h
def arH(x:O):wpOp E (.len x) tm σ K=EF (lenV (x.ev tm)) λv=>K v σ:=gV _ _ _ _ rfl λ_ _ h=>by cases h
def anW(x:O):wpOp E (.N8 x) tm σ K=EF (match x.ev tm with|.c (.ptr b o)=>some (.c (.ptr b o))|.fn f l=>some (.fn f l)|_=>none) λv=>K v σ:=gV _ _ _ _ rfl λ_ _ h=>by cases h
def ajp(z:List B):wpOp E (.alloc z) tm σ K=K (.c (.ptr σ.aj 0)) ⟨hset σ.h σ.aj ⟨z,none⟩,σ.aj+1⟩:=by rfl
def arI(x:O):wpOp E (.box x) tm σ K=match(x.ev tm).cells with|some l=>K (.c (.ptr σ.aj 0)) ⟨hset σ.h σ.aj ⟨l,none⟩,σ.aj+1⟩|none=>False:=by grind[wpOp,nP,uf.kind,l9,jv]
def anX(bytes:Nat)(z:List B)(l c:O):wpOp E (.I4 bytes z l c) tm σ K=match IK (l.ev tm),IK (c.ev tm)with
  |some n,some m=>(bif Nat.ble n m&&(Nat.ble (bytes*m) 281474976710656&&Nat.ble m 1073741824)then K (.c (.sl σ.aj 0 n (.ex m))) ⟨hset σ.h σ.aj ⟨rep z m,none⟩,σ.aj+1⟩else False)
  |_,_=>False:=by
 grind[wpOp,nP,uf.kind,l9,jv]
def arJ(e n:Nat)(z:List B)(ps:List (Nat×Nat×O))(h:n*e<=16777216)(h':n<=16777216):wpOp E (.bsl e n z ps) tm σ K=match Az (rep z n) (ps.map λp=>(p.1,p.2.1,p.2.2.ev tm))with
  |some l=>K (.c (.sl σ.aj 0 n (.ex n))) ⟨hset σ.h σ.aj ⟨l,none⟩,σ.aj+1⟩|none=>False:=by
 grind[wpOp,nP,uf.kind,l9,jv,uj]
def ajq(n:Nat)(a x:O):wpOp E (.store n a x) tm σ K=match a.ev tm,(x.ev tm).cells with
  |.c (.ptr b o),some vs=>(bif Nat.beq vs.length n then(match sto σ.h b o vs with|some h=>K .und ⟨h,σ.aj⟩|none=>False)else False)
  |_,_=>False:=by
 grind[wpOp,nP,uf.kind,ab7]
def anY(g:O)(args:List O):wpOp E (.call g args) tm σ K=match g.ev tm with|.fn f caps=>aC E f (args.map (·.ev tm)++caps.map .c) σ K|_=>False:=rfl
end
def X6(tm:Tr V):List Nat->Tr V
 |[]=>tm
 |d::l=>(X6 tm l).set d none
def Ht(tm:Tr V):∀ds,yT tm ds=some (X6 tm ds)
 |[]=>rfl
 |d::l=>by unfold yT;rw[Ht tm l];rfl
theorem Z7(tm:Tr V)(j:Nat):∀ds:List Nat,ds.contains j=false->(X6 tm ds).get j=tm.get j
 |[],_=>rfl
 |d::l,h=>by rw[List.contains_cons,Bool.or_eq_false_iff]at h;show((X6 tm l).set d none).get j=_;rw[Tr.rJ,ab (by simpa using h.1),Z7 tm j l h.2]
def aeQ(tm:Tr V)(ds:List Nat)(j:Nat)(h:ds.contains j=false):Tr.ah (X6 tm ds) j=Tr.ah tm j:=by grind[Tr.ah,Z7]
def fnd:List Rs->Nat->Option Rs
 |[],_=>none
 |r::l,u=>bif Nat.beq r.i u then some r else fnd l u
def UW(u:Nat):∀l:List Rs,l.find? (λr=>Nat.beq r.i u)=fnd l u
 |[]=>rfl
 |r::l=>by rw[List.find?_cons,fnd,UW u l];cases Nat.beq r.i u<;>rfl
def tmO:Option (Tr V)->Option Rs->Option (Tr V)
 |some tm,some r=>some (Du tm r.d r.v)
 |_,_=>none
def aeR(bH:Tr V)(res:List Rs):GY bH res []=some bH:=rfl
def acd(bH:Tr V)(res:List Rs)(u:Nat)(us:List Nat):GY bH res (u::us)=tmO (GY bH res us) (fnd res u):=by
 rw[GY,UW];cases GY bH res us with
 |none=>rfl
 |some tm=>
  cases fnd res u with
  |none=>rfl
  |some r=>show GX tm r.d r.v=_;rw[Js];rfl
def aeS(tm:Tr V)(i:Nat)(d:Option Nat)(v:V):tmO (some tm) (some ⟨i,d,v⟩)=some (Du tm d v):=rfl
def ajr(i:Nat)(d:Option Nat)(v:V)(l:List Rs):fnd (⟨i,d,v⟩::l) i=some ⟨i,d,v⟩:=by unfold fnd;simp
def aeT(i u:Nat)(d:Option Nat)(v:V)(l:List Rs)(h:i≠u):fnd (⟨i,d,v⟩::l) u=fnd l u:=by grind[fnd,Lr]
def ace(cO tm:Tr V):DV cO tm []=some tm:=rfl
def X7(cO tm:Tr V)(t:Nat)(l:List Nat):DV cO tm (t::l)=match DV cO tm l with|some tm=>some (Du tm (some t) (cO.ah t))|none=>none:=by rfl
def anZ(cO bH:Tr V)(res:List Rs)(us os:List Nat):KF cO bH res us os=match GY bH res us with|some tm=>DV cO tm os|none=>none:=rfl
def aeU(bH:Tr V):I5 bH []=some bH:=rfl
def acf(bH:Tr V)(i:Nat)(d:Option Nat)(v:V)(l:List Rs):I5 bH (⟨i,d,v⟩::l)=match I5 bH l with|some tm=>some (Du tm d v)|none=>none:=by grind[I5,Js]
def Ac(g:Option (Nat×Bool))(tm:Tr V)(A B:Prop):Prop:=match gate g tm with|some true=>A|some false=>B|none=>False
def gsV(v:V)(b:Bool)(A B:Prop):Prop:=match v with|.c (.bool c)=>(bif c==b then A else B)|.tnil=>B|_=>False
def an0(tm:Tr V)(A B:Prop):Ac none tm A B=A:=rfl
def an1(t:Nat)(b:Bool)(tm:Tr V)(A B:Prop):Ac (some (t,b)) tm A B=gsV (tm.ah t) b A B:=by grind[Ac,gsV,gate]
def an2(A B:Prop):gsV (.c (.bool true)) true A B=A:=rfl
def an3(A B:Prop):gsV (.c (.bool true)) false A B=B:=rfl
def an4(A B:Prop):gsV (.c (.bool false)) true A B=B:=rfl
def an5(A B:Prop):gsV (.c (.bool false)) false A B=A:=rfl
def ajs(b:Bool)(A B:Prop):gsV .tnil b A B=B:=rfl
def sO(cO bH:Tr V)(qs:List DO)(σ:St)(res:List Rs)(pd:List iF)(K:St->List Rs->List iF->Prop):Prop:=
 match wI cO bH qs σ res pd with
 |some (σ,res,pd)=>K σ res pd
 |none=>False
def ajt(cO bH:Tr V)(σ:St)(res:List Rs)(pd:List iF)(K:St->List Rs->List iF->Prop):sO cO bH [] σ res pd K=K σ res pd:=rfl
section
variable (E:Env) (pt:List (List Nat)) (cO bH:Tr V) (σ:St) (res:List Rs) (pd:List iF)
def oD(i:Nat)(us os:List Nat)(d:Option Nat)(g:Option (Nat×Bool))(op:uf)(l:List DO)(K:St->List Rs->List iF->Prop)(h:op.kind=.q):
  sO cO bH (⟨i,us,os,⟨d,g,op⟩⟩::l) σ res pd K=match KF cO bH res us os with
   |some tm=>Ac g tm (wpOp E op tm σ λv _=>sO cO bH l σ (⟨i,d,v⟩::res) (⟨i,⟨d,g,op⟩,tm,v,true,none⟩::pd) K) (sO cO bH l σ (⟨i,d,.tnil⟩::res) (⟨i,⟨d,g,op⟩,tm,.tnil,false,none⟩::pd) K)
   |none=>False:=by
 unfold sO Ac
 rw[wI]
 dsimp only
 cases KF cO bH res us os with
 |none=>rfl
 |some tm=>
  dsimp only
  have hc:∀g l,op≠.call g l:=λg l e=>by rw[e]at h;cases h
  grind[gV,EF]
def acg(i:Nat)(us os:List Nat)(d:Option Nat)(g:Option (Nat×Bool))(z:List B)(l:List DO)(K:St->List Rs->List iF->Prop):
  sO cO bH (⟨i,us,os,⟨d,g,.alloc z⟩⟩::l) σ res pd K=match KF cO bH res us os with
   |some tm=>Ac g tm (sO cO bH l ⟨hset σ.h σ.aj ⟨z,none⟩,σ.aj+1⟩ (⟨i,d,.c (.ptr σ.aj 0)⟩::res) (⟨i,⟨d,g,.alloc z⟩,tm,.c (.ptr σ.aj 0),true,some σ.aj⟩::pd) K)
    (sO cO bH l σ (⟨i,d,.tnil⟩::res) (⟨i,⟨d,g,.alloc z⟩,tm,.tnil,false,none⟩::pd) K)
   |none=>False:=by
 unfold sO Ac
 rw[wI]
 dsimp only
 cases KF cO bH res us os with
 |none=>rfl
 |some tm=>
  grind[uf.kind,l9,jv]
def aju(i:Nat)(us os:List Nat)(d:Option Nat)(g:Option (Nat×Bool))(x:O)(l:List DO)(K:St->List Rs->List iF->Prop):
  sO cO bH (⟨i,us,os,⟨d,g,.box x⟩⟩::l) σ res pd K=match KF cO bH res us os with
   |some tm=>Ac g tm (match(x.ev tm).cells with
    |some z=>sO cO bH l ⟨hset σ.h σ.aj ⟨z,none⟩,σ.aj+1⟩ (⟨i,d,.c (.ptr σ.aj 0)⟩::res) (⟨i,⟨d,g,.box x⟩,tm,.c (.ptr σ.aj 0),true,some σ.aj⟩::pd) K
    |none=>False) (sO cO bH l σ (⟨i,d,.tnil⟩::res) (⟨i,⟨d,g,.box x⟩,tm,.tnil,false,none⟩::pd) K)
   |none=>False:=by
 unfold sO Ac
 rw[wI]
 dsimp only
 cases KF cO bH res us os with
 |none=>rfl
 |some tm=>
  grind[uf.kind,l9,jv]
def ajv(i:Nat)(us os:List Nat)(d:Option Nat)(g:Option (Nat×Bool))(e n:Nat)(z:List B)(ps:List (Nat×Nat×O))(l:List DO)(K:St->List Rs->List iF->Prop)(hn:n*e<=16777216)(hn2:n<=16777216):
  sO cO bH (⟨i,us,os,⟨d,g,.bsl e n z ps⟩⟩::l) σ res pd K=match KF cO bH res us os with
   |some tm=>Ac g tm (match Az (rep z n) (ps.map λp=>(p.1,p.2.1,p.2.2.ev tm))with
    |some c=>sO cO bH l ⟨hset σ.h σ.aj ⟨c,none⟩,σ.aj+1⟩ (⟨i,d,.c (.sl σ.aj 0 n (.ex n))⟩::res) (⟨i,⟨d,g,.bsl e n z ps⟩,tm,.c (.sl σ.aj 0 n (.ex n)),true,some σ.aj⟩::pd) K
    |none=>False) (sO cO bH l σ (⟨i,d,.tnil⟩::res) (⟨i,⟨d,g,.bsl e n z ps⟩,tm,.tnil,false,none⟩::pd) K)
   |none=>False:=by
 unfold sO Ac
 rw[wI]
 dsimp only
 cases KF cO bH res us os with
 |none=>rfl
 |some tm=>
  grind[uf.kind,l9,uj,jv]
def agn(σ:St):List iF->Prop
 |[]=>True
 |p::l=>again σ p=true/\agn σ l
theorem QS(σ:St):∀l:List iF,(l.all (again σ)=true)=agn σ l
 |[]=>by simp[agn]
 |p::l=>by rw[dp,af,QS σ l];rfl
def ajw(σ:St):agn σ []=True:=rfl
def aeV(σ:St)(p:iF)(l:List iF):agn σ (p::l)=(again σ p=true/\agn σ l):=rfl
def ach(l:List Nat):List iF->List iF
 |[]=>[]
 |p::pd=>bif l.contains p.i then ach l pd else p::ach l pd
theorem aeW(l:List Nat):∀pd:List iF,pd.filter (λp=>!(l.contains p.i))=ach l pd
 |[]=>rfl
 |p::pd=>by rw[List.filter_cons,ach,aeW l pd];cases l.contains p.i<;>rfl
def ajx(qs:List DO)(Q:Tr V->St->Prop):UJ E pt cO bH (.fin qs) σ res pd Q=sO cO bH qs σ res pd λσ res pd=>agn σ pd/\(match I5 bH res with|some tm=>Q tm σ|none=>False):=by grind[UJ,sO,QS]
def ajy(qs:List DO)(i:Nat)(us os:List Nat)(d:Option Nat)(g:Option (Nat×Bool))(op:uf)(r:Dr)(Q:Tr V->St->Prop):
  UJ E pt cO bH (.act qs ⟨i,us,os,⟨d,g,op⟩⟩ r) σ res pd Q=sO cO bH qs σ res pd λσ res pd=>agn σ pd/\(match KF cO bH res us os with
   |some tm=>wpG E ⟨d,g,op⟩ tm σ λv σ'=>UJ E pt cO bH r σ' (⟨i,d,v⟩::res) (ach (pt.getD i []) pd) Q
   |none=>False):=by
 grind[UJ,sO,QS,aeW]
def aeX(b:B):abD b b=b.kn:=by
 cases b<;>simp[abD,B.kn]
 case int k n=>cases n<;>simp[eqI]
 case sl b o n c=>cases c<;>simp[eqC]
def X8:∀l:List B,KE l l=l.all B.kn
 |[]=>rfl
 |b::l=>by rw[dp];unfold KE;rw[aeX b,X8 l]
def ajz(l:List B):eqV (.agg l) (.agg l)=l.all B.kn:=X8 l
def arK(b:B):eqV (.c b) (.c b)=b.kn:=aeX b
def iP(i:Nat)(d:Option Nat)(g9:Option (Nat×Bool))(op:uf)(tm:Tr V)(v:V)(h:op.kind=.q)(h2:op.looks=false):again σ ⟨i,⟨d,g9,op⟩,tm,v,true,none⟩=true:=by grind[again]
def X9(i:Nat)(d:Option Nat)(g9:Option (Nat×Bool))(n:Nat)(g:Bool)(x:O)(tm:Tr V)(v:V):again σ ⟨i,⟨d,g9,.load n g x⟩,tm,v,true,none⟩=match(match x.ev tm with|.c (.ptr b o)=>ld σ.h b o n g|_=>none)with|some u=>eqV u v|none=>false:=by rfl
def UY(i:Nat)(d:Option Nat)(g9:Option (Nat×Bool))(z:List B)(tm:Tr V)(v:V)(b:Nat):again σ ⟨i,⟨d,g9,.alloc z⟩,tm,v,true,some b⟩=match σ.h b with|some ⟨c,none⟩=>KE c z|_=>false:=by rfl
def aci(i:Nat)(d:Option Nat)(g9:Option (Nat×Bool))(e n:Nat)(z:List B)(ps:List (Nat×Nat×O))(tm:Tr V)(v:V)(b:Nat)(hn:n*e<=16777216)(hn2:n<=16777216):again σ ⟨i,⟨d,g9,.bsl e n z ps⟩,tm,v,true,some b⟩=match Az (rep z n) (ps.map λp=>(p.1,p.2.1,p.2.2.ev tm))with|some z=>(match σ.h b with|some ⟨c,none⟩=>KE c z|_=>false)|none=>false:=by grind[again,uf.kind,l9,uj]
end
def ajA(σ:St)(i:Nat)(o:AO)(tm:Tr V)(v:V)(nm:Option Nat):again σ ⟨i,o,tm,v,false,nm⟩=true:=rfl
section
def E0:Env:=⟨λ_=>none,λ_ _ _=>none⟩
variable (cO bH tm:Tr V) (σ:St) (res:List Rs) (pd:List iF) (i:Nat) (us os:List Nat) (d:Option Nat) (g9:Option (Nat×Bool)) (l:List DO) (K:St→List Rs→List iF→Prop) (v:V)
def qR(g:Option (Nat×Bool))(cO bH:Tr V)(res:List Rs)(us os:List Nat)(σ:St)(pd:List iF)(i:Nat)(d:Option Nat)(op:uf)(l:List DO)(K:St->List Rs->List iF->Prop):Prop:=match KF cO bH res us os with
 |some tm=>Ac g tm (wpOp E0 op tm σ λv _=>sO cO bH l σ (⟨i,d,v⟩::res) (⟨i,⟨d,g,op⟩,tm,v,true,none⟩::pd) K) (sO cO bH l σ (⟨i,d,.tnil⟩::res) (⟨i,⟨d,g,op⟩,tm,.tnil,false,none⟩::pd) K)
 |none=>False
def arL(g:Option (Nat×Bool))(cO bH:Tr V)(res:List Rs)(us os:List Nat)(σ:St)(pd:List iF)(i:Nat)(d:Option Nat)(op:uf)(l:List DO)(K:St->List Rs->List iF->Prop):qR g cO bH res us os σ pd i d op l K=match KF cO bH res us os with
 |some tm=>Ac g tm (wpOp E0 op tm σ λv _=>sO cO bH l σ (⟨i,d,v⟩::res) (⟨i,⟨d,g,op⟩,tm,v,true,none⟩::pd) K) (sO cO bH l σ (⟨i,d,.tnil⟩::res) (⟨i,⟨d,g,op⟩,tm,.tnil,false,none⟩::pd) K)
 |none=>False:=rfl
def an6(x:O):sO cO bH (⟨i,us,os,⟨d,g9,.mov x⟩⟩::l) σ res pd K=qR g9 cO bH res us os σ pd i d (.mov x) l K:=oD E0 _ _ _ _ _ _ _ _ _ _ _ _ _ rfl
def an7(x:O):again σ ⟨i,⟨d,g9,.mov x⟩,tm,v,true,none⟩=true:=iP _ _ _ _ _ _ _ rfl rfl
def ajB(c a b:O):sO cO bH (⟨i,us,os,⟨d,g9,.pick c a b⟩⟩::l) σ res pd K=qR g9 cO bH res us os σ pd i d (.pick c a b) l K:=oD E0 _ _ _ _ _ _ _ _ _ _ _ _ _ rfl
def ajC(c a b:O):again σ ⟨i,⟨d,g9,.pick c a b⟩,tm,v,true,none⟩=true:=iP _ _ _ _ _ _ _ rfl rfl
def ajD(n:Nat)(g:Bool)(x:O):sO cO bH (⟨i,us,os,⟨d,g9,.load n g x⟩⟩::l) σ res pd K=qR g9 cO bH res us os σ pd i d (.load n g x) l K:=oD E0 _ _ _ _ _ _ _ _ _ _ _ _ _ rfl
def aeY(n:Nat)(x:O):sO cO bH (⟨i,us,os,⟨d,g9,.Ar n x⟩⟩::l) σ res pd K=qR g9 cO bH res us os σ pd i d (.Ar n x) l K:=oD E0 _ _ _ _ _ _ _ _ _ _ _ _ _ rfl
def aeZ(n:Nat)(x:O):again σ ⟨i,⟨d,g9,.Ar n x⟩,tm,v,true,none⟩=true:=iP _ _ _ _ _ _ _ rfl rfl
def ae0(o n:Nat)(g:Bool)(x:O):sO cO bH (⟨i,us,os,⟨d,g9,.field o n g x⟩⟩::l) σ res pd K=qR g9 cO bH res us os σ pd i d (.field o n g x) l K:=oD E0 _ _ _ _ _ _ _ _ _ _ _ _ _ rfl
def ae1(o n:Nat)(g:Bool)(x:O):again σ ⟨i,⟨d,g9,.field o n g x⟩,tm,v,true,none⟩=true:=iP _ _ _ _ _ _ _ rfl rfl
def ae2(e:Nat)(x j:O):sO cO bH (⟨i,us,os,⟨d,g9,.DT e x j⟩⟩::l) σ res pd K=qR g9 cO bH res us os σ pd i d (.DT e x j) l K:=oD E0 _ _ _ _ _ _ _ _ _ _ _ _ _ rfl
def ae3(e:Nat)(x j:O):again σ ⟨i,⟨d,g9,.DT e x j⟩,tm,v,true,none⟩=true:=iP _ _ _ _ _ _ _ rfl rfl
def an8(n:Nat)(x:O):sO cO bH (⟨i,us,os,⟨d,g9,.ext n x⟩⟩::l) σ res pd K=qR g9 cO bH res us os σ pd i d (.ext n x) l K:=oD E0 _ _ _ _ _ _ _ _ _ _ _ _ _ rfl
def an9(n:Nat)(x:O):again σ ⟨i,⟨d,g9,.ext n x⟩,tm,v,true,none⟩=true:=iP _ _ _ _ _ _ _ rfl rfl
def aoa(b:BinOp)(x y:O):sO cO bH (⟨i,us,os,⟨d,g9,.bin b x y⟩⟩::l) σ res pd K=qR g9 cO bH res us os σ pd i d (.bin b x y) l K:=oD E0 _ _ _ _ _ _ _ _ _ _ _ _ _ rfl
def aob(b:BinOp)(x y:O):again σ ⟨i,⟨d,g9,.bin b x y⟩,tm,v,true,none⟩=true:=iP _ _ _ _ _ _ _ rfl rfl
def aoc(p:Bool)(x y:O):sO cO bH (⟨i,us,os,⟨d,g9,.eqb p x y⟩⟩::l) σ res pd K=qR g9 cO bH res us os σ pd i d (.eqb p x y) l K:=oD E0 _ _ _ _ _ _ _ _ _ _ _ _ _ rfl
def aod(p:Bool)(x y:O):again σ ⟨i,⟨d,g9,.eqb p x y⟩,tm,v,true,none⟩=true:=iP _ _ _ _ _ _ _ rfl rfl
def ae4(p:Bool)(x y:O):sO cO bH (⟨i,us,os,⟨d,g9,.DU p x y⟩⟩::l) σ res pd K=qR g9 cO bH res us os σ pd i d (.DU p x y) l K:=oD E0 _ _ _ _ _ _ _ _ _ _ _ _ _ rfl
def ae5(p:Bool)(x y:O):again σ ⟨i,⟨d,g9,.DU p x y⟩,tm,v,true,none⟩=true:=iP _ _ _ _ _ _ _ rfl rfl
def ae6(p:Bool)(x y:O):sO cO bH (⟨i,us,os,⟨d,g9,.E5 p x y⟩⟩::l) σ res pd K=qR g9 cO bH res us os σ pd i d (.E5 p x y) l K:=oD E0 _ _ _ _ _ _ _ _ _ _ _ _ _ rfl
def ae7(p:Bool)(x y:O):again σ ⟨i,⟨d,g9,.E5 p x y⟩,tm,v,true,none⟩=true:=iP _ _ _ _ _ _ _ rfl rfl
def aoe(k:Nat)(p:Bool)(x:O):sO cO bH (⟨i,us,os,⟨d,g9,.nil k p x⟩⟩::l) σ res pd K=qR g9 cO bH res us os σ pd i d (.nil k p x) l K:=oD E0 _ _ _ _ _ _ _ _ _ _ _ _ _ rfl
def aof(k:Nat)(p:Bool)(x:O):again σ ⟨i,⟨d,g9,.nil k p x⟩,tm,v,true,none⟩=true:=iP _ _ _ _ _ _ _ rfl rfl
def aog(x:O):sO cO bH (⟨i,us,os,⟨d,g9,.not x⟩⟩::l) σ res pd K=qR g9 cO bH res us os σ pd i d (.not x) l K:=oD E0 _ _ _ _ _ _ _ _ _ _ _ _ _ rfl
def aoh(x:O):again σ ⟨i,⟨d,g9,.not x⟩,tm,v,true,none⟩=true:=iP _ _ _ _ _ _ _ rfl rfl
def ajE(k:IntKind)(x:O):sO cO bH (⟨i,us,os,⟨d,g9,.conv k x⟩⟩::l) σ res pd K=qR g9 cO bH res us os σ pd i d (.conv k x) l K:=oD E0 _ _ _ _ _ _ _ _ _ _ _ _ _ rfl
def ajF(k:IntKind)(x:O):again σ ⟨i,⟨d,g9,.conv k x⟩,tm,v,true,none⟩=true:=iP _ _ _ _ _ _ _ rfl rfl
def ae8(z:List B)(ps:List (Nat×Nat×O)):sO cO bH (⟨i,us,os,⟨d,g9,.build z ps⟩⟩::l) σ res pd K=qR g9 cO bH res us os σ pd i d (.build z ps) l K:=oD E0 _ _ _ _ _ _ _ _ _ _ _ _ _ rfl
def ae9(z:List B)(ps:List (Nat×Nat×O)):again σ ⟨i,⟨d,g9,.build z ps⟩,tm,v,true,none⟩=true:=iP _ _ _ _ _ _ _ rfl rfl
def ajG(f:Nat)(cs:List O):sO cO bH (⟨i,us,os,⟨d,g9,.N7 f cs⟩⟩::l) σ res pd K=qR g9 cO bH res us os σ pd i d (.N7 f cs) l K:=oD E0 _ _ _ _ _ _ _ _ _ _ _ _ _ rfl
def ajH(f:Nat)(cs:List O):again σ ⟨i,⟨d,g9,.N7 f cs⟩,tm,v,true,none⟩=true:=iP _ _ _ _ _ _ _ rfl rfl
def aoi(x:O):sO cO bH (⟨i,us,os,⟨d,g9,.len x⟩⟩::l) σ res pd K=qR g9 cO bH res us os σ pd i d (.len x) l K:=oD E0 _ _ _ _ _ _ _ _ _ _ _ _ _ rfl
def aoj(x:O):again σ ⟨i,⟨d,g9,.len x⟩,tm,v,true,none⟩=true:=iP _ _ _ _ _ _ _ rfl rfl
def afa(e:Nat)(x:O)(lo hi mx:Option O):sO cO bH (⟨i,us,os,⟨d,g9,.slice e x lo hi mx⟩⟩::l) σ res pd K=qR g9 cO bH res us os σ pd i d (.slice e x lo hi mx) l K:=oD E0 _ _ _ _ _ _ _ _ _ _ _ _ _ rfl
def afb(e:Nat)(x:O)(lo hi mx:Option O):again σ ⟨i,⟨d,g9,.slice e x lo hi mx⟩,tm,v,true,none⟩=true:=iP _ _ _ _ _ _ _ rfl rfl
def ajI(x:O):sO cO bH (⟨i,us,os,⟨d,g9,.N8 x⟩⟩::l) σ res pd K=qR g9 cO bH res us os σ pd i d (.N8 x) l K:=oD E0 _ _ _ _ _ _ _ _ _ _ _ _ _ rfl
def ajJ(x:O):again σ ⟨i,⟨d,g9,.N8 x⟩,tm,v,true,none⟩=true:=iP _ _ _ _ _ _ _ rfl rfl
def ajK(x y:O):sO cO bH (⟨i,us,os,⟨d,g9,.min2 x y⟩⟩::l) σ res pd K=qR g9 cO bH res us os σ pd i d (.min2 x y) l K:=oD E0 _ _ _ _ _ _ _ _ _ _ _ _ _ rfl
def ajL(x y:O):again σ ⟨i,⟨d,g9,.min2 x y⟩,tm,v,true,none⟩=true:=iP _ _ _ _ _ _ _ rfl rfl
end
def aok{E:Env}{tm:Tr V}{σ:St}{Q:AX->Tr V->St->Prop}{d:Dr}{pt:List (List Nat)}{ds:List Nat}(h:UJ E pt tm (X6 tm ds) d σ [] [] λtm' σ'=>Q .normal tm' σ'):bK E (.drawn d pt ds) tm σ Q:=
 abU _ (Ht tm ds) h
end Go.Proofs.Xe
end
