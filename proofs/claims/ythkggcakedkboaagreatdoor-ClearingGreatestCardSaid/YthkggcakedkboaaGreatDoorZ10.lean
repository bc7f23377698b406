import Derived.Test.YthkggcakedkboaaGreatDoorZ9
set_option linter.all false
noncomputable section
namespace Go.Proofs.Xe
open Go.RowKit Go.Proofs.Ins
def adG(tm:Tr V)(d:Nat)(v:V):Tr.ah (Ey tm (some d) v) d=v:=by grind[Tr.ah,Ey,Tr.tN]
def akV(tm:Tr V)(d j:Nat)(v:V)(h:j≠d):Tr.ah (Ey tm (some d) v) j=Tr.ah tm j:=by grind[Tr.ah,Ey,Tr.tN]
def adH(tm:Tr V)(v:V):Ey tm none v=tm:=rfl
def adI(a:V)(l:List V):Tr.ah (ini (a::l)) 0=a:=by grind[Tr.ah,D8]
def adJ(a b:V)(l:List V):Tr.ah (ini (a::b::l)) 1=b:=by grind[Tr.ah,D8]
def adK(a b c:V)(l:List V):Tr.ah (ini (a::b::c::l)) 2=c:=by grind[Tr.ah,D8]
def adL(a b c d:V)(l:List V):Tr.ah (ini (a::b::c::d::l)) 3=d:=by grind[Tr.ah,D8]
def adM(a b c d e:V)(l:List V):Tr.ah (ini (a::b::c::d::e::l)) 4=e:=by grind[Tr.ah,D8]
def adN(a b c d e f:V)(l:List V):Tr.ah (ini (a::b::c::d::e::f::l)) 5=f:=by grind[Tr.ah,D8]
def awE(tm:Tr V)(i:Nat):O.ev tm (.t i)=Tr.ah tm i:=rfl
def awF(tm:Tr V)(v:V):O.ev tm (.k v)=v:=rfl
def z3(l:List B):(B.bool false::s0::s0::l)=(.bool (rn 0):: .str (rs 0):: .str (rd 0)::l):=rfl
def hset(h:Tr Bk)(b:Nat)(k:Bk):Tr Bk:=h.set b (some k)
theorem aA(h:Tr Bk)(b:Nat)(k:Bk):hset h b k b=some k:=by grind[hset,Tr.tN]
theorem au(h:Tr Bk)(b j:Nat)(k:Bk)(e:j≠b):hset h b k j=h j:=by grind[hset,Tr.tN]
def ld(h:Tr Bk)(b o n:Nat)(g:Bool):Option V:=match h b with|some k=>bif k.rd then zk k.cells o n g else none|none=>none
def sto(h:Tr Bk)(b o:Nat)(vs:List B):Option (Tr Bk):=match h b with
 |some k=>(match bif k.pl then yj k.cells o vs else none with|some l=>some (hset h b ⟨l,k.opn⟩)|none=>none)
 |none=>none
def agj(n:Nat)(g:Bool)(x:O)(tm:Tr V)(σ:St):abb n g x tm σ=match x.ev tm with|.c (.ptr b o)=>ld σ.h b o n g|_=>none:=rfl
theorem adO(n:Nat)(a x:O)(tm:Tr V)(σ:St):um (.store n a x) tm σ=match a.ev tm,(x.ev tm).cells with
  |.c (.ptr b o),some vs=>bif Nat.beq vs.length n then(match sto σ.h b o vs with|some h=>some (.und,⟨h,σ.aj⟩)|none=>none)else none
  |_,_=>none:=by
 unfold um sto
 dsimp only
 generalize O.ev tm a=va
 generalize (O.ev tm x).cells=vc
 cases vc with
 |none=>simp
 |some vs=>
  split
  .next b o vs' e=>
   cases e
   dsimp only
   cases Nat.beq vs.length n with
   |false=>rfl
   |true=>
    simp only[cC]
    cases σ.h b with
    |none=>rfl
    |some k=>
     dsimp only
     cases(bif k.pl then yj k.cells o vs else none)with
     |none=>rfl
     |some l=>rfl
  simp
theorem jM(σ:St)(k:Bk):σ.new k=some (σ.aj,⟨hset σ.h σ.aj k,σ.aj+1⟩):=by rfl
def akW(h:Tr Bk)(b:Nat)(k:Bk)(o n:Nat)(g:Bool):ld (hset h b k) b o n g=bif k.rd then zk k.cells o n g else none:=by unfold ld;rw[aA]
def atA(h:Tr Bk)(b j:Nat)(k:Bk)(o n:Nat)(g:Bool)(e:j≠b):ld (hset h b k) j o n g=ld h j o n g:=by grind[ld,au]
def agk(h:Tr Bk)(b:Nat)(k:Bk)(o:Nat)(vs:List B):sto (hset h b k) b o vs=match bif k.pl then yj k.cells o vs else none with|some l=>some (hset (hset h b k) b ⟨l,k.opn⟩)|none=>none:=by unfold sto;rw[aA]
def apu(h:Tr Bk)(b j:Nat)(k:Bk)(o:Nat)(vs:List B)(e:j≠b):sto (hset h b k) j o vs=match h j with|some k'=>(match bif k'.pl then yj k'.cells o vs else none with|some l=>some (hset (hset h b k) j ⟨l,k'.opn⟩)|none=>none)|none=>none:=by grind[sto,au]
def awG{α:Sort _}(a b:α):(bif true then a else b)=a:=rfl
def awH{α:Sort _}(a b:α):(bif false then a else b)=b:=rfl
theorem Fe{a b:Nat}(h:a<b):Nat.blt a b=true:=fh h
theorem vN{a b:Nat}(h:a<=b):Nat.ble a b=true:=fh h
theorem abo(a:Nat):Nat.beq a a=true:=by simp
theorem Nz{a b:Nat}(h:a≠b):Nat.beq a b=false:=by grind[Nat.eq_of_beq_eq_true]
theorem TB{n:Nat}(h:n<=9223372036854775807):mkI .i64 (.ofNat n)=some (.c (.int .i64 (.ofNat n))):=by grind[mkI,anS,IY,vN]
def add_ofNat(a b:Nat):(Int.ofNat a+Int.ofNat b)=Int.ofNat (a+b):=rfl
def aG(a b:Nat):decide (Int.ofNat a<Int.ofNat b)=decide (a<b):=by simp
def WF(σ:St):Prop:=∀b,σ.aj<=b->σ.h b=none
structure Fr(σ σ':St):Prop where
 le:σ.aj<=σ'.aj
 wf:WF σ'
 old:∀b,b<σ.aj->σ'.h b=σ.h b
theorem Fr.refl{σ:St}(h:WF σ):Fr σ σ:=⟨jp,h,λ_ _=>rfl⟩
def Fr.trans{σ σ' Na:St}(h:Fr σ σ')(h':Fr σ' Na):Fr σ Na:=⟨ap h.le h'.le,h'.wf,λb hb=>(h'.old b (aD hb h.le)).trans (h.old b hb)⟩
def WF.lt{σ:St}(h:WF σ){b:Nat}{k:Bk}(hb:σ.h b=some k):b<σ.aj:=by refine Nat.lt_of_not_le λe=>?_;rw[h b e]at hb;cases hb
def WF.cO{σ:St}(h:WF σ){b o n:Nat}{g:Bool}{v:V}(hb:ld σ.h b o n g=some v):b<σ.aj:=by
 unfold ld at hb;split at hb
 .next k hk=>exact h.lt hk
 grind
theorem Fr.ld{σ σ':St}(h:WF σ)(hf:Fr σ σ'){b o n:Nat}{g:Bool}{v:V}(hb:Xe.ld σ.h b o n g=some v):Xe.ld σ'.h b o n g=some v:=by have hlt:=h.cO hb;unfold Xe.ld at hb⊢;rw[hf.old b hlt];exact hb
def Fr.get{σ σ':St}(h:WF σ)(hf:Fr σ σ'){b:Nat}{k:Bk}(hb:σ.h b=some k):σ'.h b=some k:=by rw[hf.old b (h.lt hb)];exact hb
def Fr.new{σ σ':St}(hf:Fr σ σ')(k:Bk):Fr σ ⟨hset σ'.h σ'.aj k,σ'.aj+1⟩:=
 ⟨Nat.le_succ_of_le hf.le,λb hb=>by
  have hb:σ'.aj+1<=b:=hb;show hset σ'.h σ'.aj k b=none;rw[au _ _ _ _ jb];exact hf.wf b jb,λb hb=>by
  show hset σ'.h σ'.aj k b=_;have:=hf.le;rw[au _ _ _ _ jb];exact hf.old b hb⟩
def Fr.set{σ σ':St}(hf:Fr σ σ'){b:Nat}(hb:σ.aj<=b)(hb2:b<σ'.aj)(k:Bk):Fr σ ⟨hset σ'.h b k,σ'.aj⟩:=
 ⟨hf.le,λj hj=>by
  have hj:σ'.aj<=j:=hj;show hset σ'.h b k j=none;rw[au _ _ _ _ jb];exact hf.wf j hj,λj hj=>by
  show hset σ'.h b k j=_;rw[au _ _ _ _ jb];exact hf.old j hj⟩
def HL(h:Tr Bk)(e:Nat)(v:B)(n:Nat)(G:Nat->List B):Prop:=
 (n=0/\v=.aW)\/∃b o c,v=.sl b o n c/\∀i,i<n->ld h b (o+i*e) e true=some (.agg (G i))
def HC(h:Tr Bk)(v:B)(n:Nat)(G:Nat->B):Prop:=
 (n=0/\v=.aW)\/∃b o c,v=.sl b o n c/\∀i,i<n->ld h b (o+i*1) 1 false=some (.c (G i))
def lenV:V->Option V
 |.c (.sl _ _ n _)=>some (.c (.int .i64 (.ofNat n)))
 |.c .aW=>some (.c (.int .i64 (.ofNat 0)))
 |_=>none
def akX(b o n:Nat)(c:Cap):lenV (.c (.sl b o n c))=some (.c (.int .i64 (.ofNat n))):=rfl
def adP:lenV (.c .aW)=some (.c (.int .i64 (.ofNat 0))):=rfl
def HL.len{h:Tr Bk}{e:Nat}{v:B}{n:Nat}{G:Nat->List B}(hl:HL h e v n G):lenV (.c v)=some (.c (.int .i64 (.ofNat n))):=by rcases hl with⟨rfl,rfl⟩|⟨b,o,c,rfl,-⟩<;>rfl
def HC.len{h:Tr Bk}{v:B}{n:Nat}{G:Nat->B}(hl:HC h v n G):lenV (.c v)=some (.c (.int .i64 (.ofNat n))):=by rcases hl with⟨rfl,rfl⟩|⟨b,o,c,rfl,-⟩<;>rfl
def HL.pos{h:Tr Bk}{e:Nat}{v:B}{n:Nat}{G:Nat->List B}(hl:HL h e v n G)(hn:0<n):∃b o c,v=.sl b o n c/\∀i,i<n->ld h b (o+i*e) e true=some (.agg (G i)):=by
 rcases hl with⟨rfl,-⟩|h
 .omega
 .exact h
def HC.pos{h:Tr Bk}{v:B}{n:Nat}{G:Nat->B}(hl:HC h v n G)(hn:0<n):∃b o c,v=.sl b o n c/\∀i,i<n->ld h b (o+i*1) 1 false=some (.c (G i)):=by
 rcases hl with⟨rfl,-⟩|h
 .omega
 .exact h
theorem HL.fr{σ σ':St}(hW:WF σ)(hf:Fr σ σ'){e:Nat}{v:B}{n:Nat}{G:Nat->List B}(hl:HL σ.h e v n G):HL σ'.h e v n G:=by
 rcases hl with h|⟨b,o,c,rfl,h⟩
 .exact .inl h
 .exact .inr ⟨b,o,c,rfl,λi hi=>hf.ld hW (h i hi)⟩
theorem HC.fr{σ σ':St}(hW:WF σ)(hf:Fr σ σ'){v:B}{n:Nat}{G:Nat->B}(hl:HC σ.h v n G):HC σ'.h v n G:=by
 rcases hl with h|⟨b,o,c,rfl,h⟩
 .exact .inl h
 .exact .inr ⟨b,o,c,rfl,λi hi=>hf.ld hW (h i hi)⟩
section
variable (E:Env)
def adQ(tm:Tr V)(σ:St)(Q:Tr V->St->Prop):wpOps E [] tm σ Q=Q tm σ:=rfl
def wpOps_cons(o:AO)(r:List AO)(tm:Tr V)(σ:St)(Q:Tr V->St->Prop):wpOps E (o::r) tm σ Q=wpG E o tm σ λv σ'=>wpOps E r (Ey tm o.dst v) σ' Q:=rfl
variable (tm:Tr V) (σ:St) (K:V→St→Prop)
def Gh(o:Option V)(K:V->Prop):Prop:=match o with|some v=>K v|none=>False
def agl(v:V)(K:V->Prop):Gh (some v) K=K v:=rfl
theorem iy{op:vJ}(h:op.kind=.q)(h2:∀g l,op≠.call g l):wpOp E op tm σ K=Gh (dA op tm σ) λv=>K v σ:=by unfold wpOp;grind[oQ,Gh]
def apv(c a b:O):wpOp E (.pick c a b) tm σ K=Gh (match c.ev tm with|.c (.bool t)=>some (bif t then a.ev tm else b.ev tm)|_=>none) λv=>K v σ:=iy _ _ _ _ rfl λ_ _ h=>by cases h
def o_load(n:Nat)(g:Bool)(x:O):wpOp E (.load n g x) tm σ K=Gh (match x.ev tm with|.c (.ptr b o)=>ld σ.h b o n g|_=>none) λv=>K v σ:=iy _ _ _ _ rfl λ_ _ h=>by cases h
def akY(off:Nat)(x:O):wpOp E (.BO off x) tm σ K=Gh (match x.ev tm with|.c (.ptr b o)=>some (.c (.ptr b (o+off)))|_=>none) λv=>K v σ:=by rw[iy _ _ _ _ (by rfl) λ_ _ h=>by cases h];grind[dA,Zc,qE]
def akZ(off n:Nat)(g:Bool)(x:O):wpOp E (.field off n g x) tm σ K=Gh (match x.ev tm with|.agg l=>zk l off n g|_=>none) λv=>K v σ:=iy _ _ _ _ rfl λ_ _ h=>by cases h
def iaV(e:Nat)(v:V)(i:V):Option V:=match v,JU i with|.c (.sl b o n _),some j=>(bif Nat.blt j n then some (.c (.ptr b (o+j*e)))else none)|_,_=>none
def ak0(e:Nat)(x i:O):wpOp E (.EW e x i) tm σ K=Gh (iaV e (x.ev tm) (i.ev tm)) λv=>K v σ:=by rw[iy _ _ _ _ (by rfl) λ_ _ h=>by cases h];unfold dA Zd iaV;grind[qE]
def apw(e b o n j:Nat)(c:Cap)(h:j<n):iaV e (.c (.sl b o n c)) (.c (.int .i64 (.ofNat j)))=some (.c (.ptr b (o+j*e))):=by simp_all[iaV,JU,Fe]
def atB(i:Nat)(x:O):wpOp E (.ext i x) tm σ K=Gh (afI i x tm) λv=>K v σ:=iy _ _ _ _ rfl λ_ _ h=>by cases h
def agm:Nat->V->Option V
 |0,.aX a _=>some a
 |1,.aX _ (.aX a _)=>some a
 |2,.aX _ (.aX _ (.aX a _))=>some a
 |_,_=>none
def apx(i:Nat)(x:O)(tm:Tr V):afI i x tm=agm i (x.ev tm):=by unfold afI agm;grind
def apy(a r:V):agm 0 (.aX a r)=some a:=rfl
def apz(a b r:V):agm 1 (.aX a (.aX b r))=some b:=rfl
def apC(a b c r:V):agm 2 (.aX a (.aX b (.aX c r)))=some c:=rfl
def atC(b:BinOp)(x y:O):wpOp E (.bin b x y) tm σ K=Gh (oP b (x.ev tm) (y.ev tm)) λv=>K v σ:=iy _ _ _ _ rfl λ_ _ h=>by cases h
def atD(a b:Int):oP .lss (.c (.int .i64 a)) (.c (.int .i64 b))=some (.c (.bool (decide (a<b)))):=rfl
def atE(a b:Int):oP .gtr (.c (.int .i64 a)) (.c (.int .i64 b))=some (.c (.bool (decide (b<a)))):=rfl
def atF(a b:Int):oP .leq (.c (.int .i64 a)) (.c (.int .i64 b))=some (.c (.bool (decide (a<=b)))):=rfl
def atG(a b:Int):oP .geq (.c (.int .i64 a)) (.c (.int .i64 b))=some (.c (.bool (decide (b<=a)))):=rfl
def atH(a b:Int):oP .eql (.c (.int .i64 a)) (.c (.int .i64 b))=some (.c (.bool (decide (a=b)))):=rfl
def atI(a b:Int):oP .neq (.c (.int .i64 a)) (.c (.int .i64 b))=some (.c (.bool (!decide (a=b)))):=rfl
def apD(a b:ByteArray):oP .eql (.c (.str a)) (.c (.str b))=some (.c (.bool (decide (a=b)))):=rfl
def apE(a b:ByteArray):oP .neq (.c (.str a)) (.c (.str b))=some (.c (.bool (!decide (a=b)))):=rfl
def atJ(a b:Nat)(h:a+b<=9223372036854775807):oP .add (.c (.int .i64 (.ofNat a))) (.c (.int .i64 (.ofNat b)))=some (.c (.int .i64 (.ofNat (a+b)))):=by show mkI .i64 (Int.ofNat a+Int.ofNat b)=_;rw[add_ofNat,TB h]
def atK(a b:Nat)(h:a<=9223372036854775807)(h2:b<=a):oP .sub (.c (.int .i64 (.ofNat a))) (.c (.int .i64 (.ofNat b)))=some (.c (.int .i64 (.ofNat (a-b)))):=by show mkI .i64 (Int.ofNat a-Int.ofNat b)=_;grind[TB]
def atL(p:Bool)(x y:O):wpOp E (.eqb p x y) tm σ K=Gh (match x.ev tm,y.ev tm with|.c (.bool a),.c (.bool b)=>some (.c (.bool (p==(a==b))))|_,_=>none) λv=>K v σ:=iy _ _ _ _ rfl λ_ _ h=>by cases h
def ak1(p:Bool)(x y:O):wpOp E (.E5 p x y) tm σ K=Gh (match x.ev tm,y.ev tm with|.agg l,.agg r=>(match eqB l r with|some b=>some (.c (.bool (p==b)))|none=>none)|_,_=>none) λv=>K v σ:=iy _ _ _ _ rfl λ_ _ h=>by cases h
def apG(a b c d:Int):eqL [.int .i64 a,.int .i64 b] [.int .i64 c,.int .i64 d]=some (decide (a=c)&&decide (b=d)):=rfl
def ak2(p q:Rat):eqB [.bool (rn p),.str (rs p),.str (rd p)] [.bool (rn q),.str (rs q),.str (rd q)]=some (decide (p=q)):=by grind[eqB,eqS,decide,YV]
def atM(k:Nat)(p:Bool)(v:V):Option V:=match k,v with
 |0,.c (.sl ..)=>some (.c (.bool (!p)))
 |0,.c .aW=>some (.c (.bool p))
 |1,.c (.ptr ..)=>some (.c (.bool (!p)))
 |1,.c .SQ=>some (.c (.bool p))
 |2,.fn ..=>some (.c (.bool (!p)))
 |2,.MH=>some (.c (.bool p))
 |_,_=>none
def atN(k:Nat)(p:Bool)(x:O):wpOp E (.nil k p x) tm σ K=Gh (atM k p (x.ev tm)) λv=>K v σ:=iy _ _ _ _ rfl λ_ _ h=>by cases h
def atO(x:O):wpOp E (.not x) tm σ K=Gh (match x.ev tm with|.c (.bool b)=>some (.c (.bool !b))|_=>none) λv=>K v σ:=iy _ _ _ _ rfl λ_ _ h=>by cases h
def ak3(z:List B)(ps:List (Nat×Nat×O)):wpOp E (.build z ps) tm σ K=Gh (match BP z (ps.map λp=>(p.1,p.2.1,p.2.2.ev tm))with|some l=>some (.agg l)|none=>none) λv=>K v σ:=iy _ _ _ _ rfl λ_ _ h=>by cases h
def apI(f:Nat)(cs:List O):wpOp E (.PI f cs) tm σ K=Gh (match Zb tm cs with|some l=>some (.fn f l)|none=>none) λv=>K v σ:=iy _ _ _ _ rfl λ_ _ h=>by cases h
def atP(x:O):wpOp E (.len x) tm σ K=Gh (lenV (x.ev tm)) λv=>K v σ:=iy _ _ _ _ rfl λ_ _ h=>by cases h
def apJ(x:O):wpOp E (.PK x) tm σ K=Gh (match x.ev tm with|.c (.ptr b o)=>some (.c (.ptr b o))|.fn f l=>some (.fn f l)|_=>none) λv=>K v σ:=iy _ _ _ _ rfl λ_ _ h=>by cases h
def ak4(z:List B):wpOp E (.alloc z) tm σ K=K (.c (.ptr σ.aj 0)) ⟨hset σ.h σ.aj ⟨z,none⟩,σ.aj+1⟩:=by rfl
def atQ(x:O):wpOp E (.box x) tm σ K=match(x.ev tm).cells with|some l=>K (.c (.ptr σ.aj 0)) ⟨hset σ.h σ.aj ⟨l,none⟩,σ.aj+1⟩|none=>False:=by grind[wpOp,oQ,vJ.kind,nJ,jM]
def apL(bytes:Nat)(z:List B)(l c:O):wpOp E (.J8 bytes z l c) tm σ K=match JU (l.ev tm),JU (c.ev tm)with
  |some n,some m=>(bif Nat.ble n m&&(Nat.ble (bytes*m) 281474976710656&&Nat.ble m 1073741824)then K (.c (.sl σ.aj 0 n (.ex m))) ⟨hset σ.h σ.aj ⟨rep z m,none⟩,σ.aj+1⟩else False)
  |_,_=>False:=by
 grind[wpOp,oQ,vJ.kind,nJ,jM]
def atS(e n:Nat)(z:List B)(ps:List (Nat×Nat×O))(h:n*e<=16777216)(h':n<=16777216):wpOp E (.bsl e n z ps) tm σ K=match BP (rep z n) (ps.map λp=>(p.1,p.2.1,p.2.2.ev tm))with
  |some l=>K (.c (.sl σ.aj 0 n (.ex n))) ⟨hset σ.h σ.aj ⟨l,none⟩,σ.aj+1⟩|none=>False:=by
 grind[wpOp,oQ,vJ.kind,nJ,jM,vN]
def ak5(n:Nat)(a x:O):wpOp E (.store n a x) tm σ K=match a.ev tm,(x.ev tm).cells with
  |.c (.ptr b o),some vs=>(bif Nat.beq vs.length n then(match sto σ.h b o vs with|some h=>K .und ⟨h,σ.aj⟩|none=>False)else False)
  |_,_=>False:=by
 grind[wpOp,oQ,vJ.kind,adO]
def apO(g:O)(args:List O):wpOp E (.call g args) tm σ K=match g.ev tm with|.fn f caps=>aC E f (args.map (·.ev tm)++caps.map .c) σ K|_=>False:=rfl
end
def Zw(tm:Tr V):List Nat->Tr V
 |[]=>tm
 |d::l=>(Zw tm l).set d none
def Je(tm:Tr V):∀ds,Ah tm ds=some (Zw tm ds)
 |[]=>rfl
 |d::l=>by unfold Ah;rw[Je tm l];rfl
theorem abp(tm:Tr V)(j:Nat):∀ds:List Nat,ds.contains j=false->(Zw tm ds).get j=tm.get j
 |[],_=>rfl
 |d::l,h=>by rw[List.contains_cons,Bool.or_eq_false_iff]at h;show((Zw tm l).set d none).get j=_;rw[Tr.tN,ae (by simpa using h.1),abp tm j l h.2]
def agp(tm:Tr V)(ds:List Nat)(j:Nat)(h:ds.contains j=false):Tr.ah (Zw tm ds) j=Tr.ah tm j:=by grind[Tr.ah,abp]
def fnd:List Rs->Nat->Option Rs
 |[],_=>none
 |r::l,u=>bif Nat.beq r.i u then some r else fnd l u
def WE(u:Nat):∀l:List Rs,l.find? (λr=>Nat.beq r.i u)=fnd l u
 |[]=>rfl
 |r::l=>by rw[List.find?_cons,fnd,WE u l];cases Nat.beq r.i u<;>rfl
def tmO:Option (Tr V)->Option Rs->Option (Tr V)
 |some tm,some r=>some (Ey tm r.d r.v)
 |_,_=>none
def agq(bP:Tr V)(res:List Rs):I4 bP res []=some bP:=rfl
def adR(bP:Tr V)(res:List Rs)(u:Nat)(us:List Nat):I4 bP res (u::us)=tmO (I4 bP res us) (fnd res u):=by
 rw[I4,WE];cases I4 bP res us with
 |none=>rfl
 |some tm=>
  cases fnd res u with
  |none=>rfl
  |some r=>show IZ tm r.d r.v=_;rw[KL];rfl
def ags(tm:Tr V)(i:Nat)(d:Option Nat)(v:V):tmO (some tm) (some ⟨i,d,v⟩)=some (Ey tm d v):=rfl
def ak6(i:Nat)(d:Option Nat)(v:V)(l:List Rs):fnd (⟨i,d,v⟩::l) i=some ⟨i,d,v⟩:=by unfold fnd;simp
def agt(i u:Nat)(d:Option Nat)(v:V)(l:List Rs)(h:i≠u):fnd (⟨i,d,v⟩::l) u=fnd l u:=by grind[fnd,Nz]
def adS(dI tm:Tr V):E8 dI tm []=some tm:=rfl
def Zx(dI tm:Tr V)(t:Nat)(l:List Nat):E8 dI tm (t::l)=match E8 dI tm l with|some tm=>some (Ey tm (some t) (dI.ah t))|none=>none:=by rfl
def apP(dI bP:Tr V)(res:List Rs)(us os:List Nat):MO dI bP res us os=match I4 bP res us with|some tm=>E8 dI tm os|none=>none:=rfl
def agu(bP:Tr V):J9 bP []=some bP:=rfl
def adT(bP:Tr V)(i:Nat)(d:Option Nat)(v:V)(l:List Rs):J9 bP (⟨i,d,v⟩::l)=match J9 bP l with|some tm=>some (Ey tm d v)|none=>none:=by grind[J9,KL]
def BA(g:Option (Nat×Bool))(tm:Tr V)(A B:Prop):Prop:=match gate g tm with|some true=>A|some false=>B|none=>False
def gsV(v:V)(b:Bool)(A B:Prop):Prop:=match v with|.c (.bool c)=>(bif c==b then A else B)|.tnil=>B|_=>False
def apQ(tm:Tr V)(A B:Prop):BA none tm A B=A:=rfl
def apS(t:Nat)(b:Bool)(tm:Tr V)(A B:Prop):BA (some (t,b)) tm A B=gsV (tm.ah t) b A B:=by grind[BA,gsV,gate]
def apU(A B:Prop):gsV (.c (.bool true)) true A B=A:=rfl
def apV(A B:Prop):gsV (.c (.bool true)) false A B=B:=rfl
def apW(A B:Prop):gsV (.c (.bool false)) true A B=B:=rfl
def apX(A B:Prop):gsV (.c (.bool false)) false A B=A:=rfl
def ak7(b:Bool)(A B:Prop):gsV .tnil b A B=B:=rfl
def abq{p:Prop}[Decidable p]{A B:Prop}(h1:p->A)(h2:¬p->B):gsV (.c (.bool (decide p))) true A B:=by
 by_cases h:p
 .rw[bp h];exact h1 h
 .rw[az h];exact h2 h
def WG{p:Prop}[Decidable p]{A B:Prop}(h1:p->B)(h2:¬p->A):gsV (.c (.bool (decide p))) false A B:=by
 by_cases h:p
 .rw[bp h];exact h1 h
 .rw[az h];exact h2 h
def uO(dI bP:Tr V)(qs:List DO)(σ:St)(res:List Rs)(pd:List iO)(K:St->List Rs->List iO->Prop):Prop:=
 match xW dI bP qs σ res pd with
 |some (σ,res,pd)=>K σ res pd
 |none=>False
def ak8(dI bP:Tr V)(σ:St)(res:List Rs)(pd:List iO)(K:St->List Rs->List iO->Prop):uO dI bP [] σ res pd K=K σ res pd:=rfl
section
variable (E:Env) (pt:List (List Nat)) (dI bP:Tr V) (σ:St) (res:List Rs) (pd:List iO)
def qg(i:Nat)(us os:List Nat)(d:Option Nat)(g:Option (Nat×Bool))(op:vJ)(l:List DO)(K:St->List Rs->List iO->Prop)(h:op.kind=.q):
  uO dI bP (⟨i,us,os,⟨d,g,op⟩⟩::l) σ res pd K=match MO dI bP res us os with
   |some tm=>BA g tm (wpOp E op tm σ λv _=>uO dI bP l σ (⟨i,d,v⟩::res) (⟨i,⟨d,g,op⟩,tm,v,true,none⟩::pd) K) (uO dI bP l σ (⟨i,d,.tnil⟩::res) (⟨i,⟨d,g,op⟩,tm,.tnil,false,none⟩::pd) K)
   |none=>False:=by
 unfold uO BA
 rw[xW]
 dsimp only
 cases MO dI bP res us os with
 |none=>rfl
 |some tm=>
  dsimp only
  have hc:∀g l,op≠.call g l:=λg l e=>by rw[e]at h;cases h
  grind[iy,Gh]
def adU(i:Nat)(us os:List Nat)(d:Option Nat)(g:Option (Nat×Bool))(z:List B)(l:List DO)(K:St->List Rs->List iO->Prop):
  uO dI bP (⟨i,us,os,⟨d,g,.alloc z⟩⟩::l) σ res pd K=match MO dI bP res us os with
   |some tm=>BA g tm (uO dI bP l ⟨hset σ.h σ.aj ⟨z,none⟩,σ.aj+1⟩ (⟨i,d,.c (.ptr σ.aj 0)⟩::res) (⟨i,⟨d,g,.alloc z⟩,tm,.c (.ptr σ.aj 0),true,some σ.aj⟩::pd) K)
    (uO dI bP l σ (⟨i,d,.tnil⟩::res) (⟨i,⟨d,g,.alloc z⟩,tm,.tnil,false,none⟩::pd) K)
   |none=>False:=by
 unfold uO BA
 rw[xW]
 dsimp only
 cases MO dI bP res us os with
 |none=>rfl
 |some tm=>
  grind[vJ.kind,nJ,jM]
def ak9(i:Nat)(us os:List Nat)(d:Option Nat)(g:Option (Nat×Bool))(x:O)(l:List DO)(K:St->List Rs->List iO->Prop):
  uO dI bP (⟨i,us,os,⟨d,g,.box x⟩⟩::l) σ res pd K=match MO dI bP res us os with
   |some tm=>BA g tm (match(x.ev tm).cells with
    |some z=>uO dI bP l ⟨hset σ.h σ.aj ⟨z,none⟩,σ.aj+1⟩ (⟨i,d,.c (.ptr σ.aj 0)⟩::res) (⟨i,⟨d,g,.box x⟩,tm,.c (.ptr σ.aj 0),true,some σ.aj⟩::pd) K
    |none=>False) (uO dI bP l σ (⟨i,d,.tnil⟩::res) (⟨i,⟨d,g,.box x⟩,tm,.tnil,false,none⟩::pd) K)
   |none=>False:=by
 unfold uO BA
 rw[xW]
 dsimp only
 cases MO dI bP res us os with
 |none=>rfl
 |some tm=>
  grind[vJ.kind,nJ,jM]
def ala(i:Nat)(us os:List Nat)(d:Option Nat)(g:Option (Nat×Bool))(e n:Nat)(z:List B)(ps:List (Nat×Nat×O))(l:List DO)(K:St->List Rs->List iO->Prop)(hn:n*e<=16777216)(hn2:n<=16777216):
  uO dI bP (⟨i,us,os,⟨d,g,.bsl e n z ps⟩⟩::l) σ res pd K=match MO dI bP res us os with
   |some tm=>BA g tm (match BP (rep z n) (ps.map λp=>(p.1,p.2.1,p.2.2.ev tm))with
    |some c=>uO dI bP l ⟨hset σ.h σ.aj ⟨c,none⟩,σ.aj+1⟩ (⟨i,d,.c (.sl σ.aj 0 n (.ex n))⟩::res) (⟨i,⟨d,g,.bsl e n z ps⟩,tm,.c (.sl σ.aj 0 n (.ex n)),true,some σ.aj⟩::pd) K
    |none=>False) (uO dI bP l σ (⟨i,d,.tnil⟩::res) (⟨i,⟨d,g,.bsl e n z ps⟩,tm,.tnil,false,none⟩::pd) K)
   |none=>False:=by
 unfold uO BA
 rw[xW]
 dsimp only
 cases MO dI bP res us os with
 |none=>rfl
 |some tm=>
  grind[vJ.kind,nJ,vN,jM]
def agn(σ:St):List iO->Prop
 |[]=>True
 |p::l=>again σ p=true/\agn σ l
theorem TD(σ:St):∀l:List iO,(l.all (again σ)=true)=agn σ l
 |[]=>by simp[agn]
 |p::l=>by rw[cU,af,TD σ l];rfl
def alb(σ:St):agn σ []=True:=rfl
def agv(σ:St)(p:iO)(l:List iO):agn σ (p::l)=(again σ p=true/\agn σ l):=rfl
def adV(l:List Nat):List iO->List iO
 |[]=>[]
 |p::pd=>bif l.contains p.i then adV l pd else p::adV l pd
theorem agw(l:List Nat):∀pd:List iO,pd.filter (λp=>!(l.contains p.i))=adV l pd
 |[]=>rfl
 |p::pd=>by rw[List.filter_cons,adV,agw l pd];cases l.contains p.i<;>rfl
def alc(qs:List DO)(Q:Tr V->St->Prop):Wq E pt dI bP (.fin qs) σ res pd Q=uO dI bP qs σ res pd λσ res pd=>agn σ pd/\(match J9 bP res with|some tm=>Q tm σ|none=>False):=by grind[Wq,uO,TD]
def ald(qs:List DO)(i:Nat)(us os:List Nat)(d:Option Nat)(g:Option (Nat×Bool))(op:vJ)(r:Dr)(Q:Tr V->St->Prop):
  Wq E pt dI bP (.act qs ⟨i,us,os,⟨d,g,op⟩⟩ r) σ res pd Q=uO dI bP qs σ res pd λσ res pd=>agn σ pd/\(match MO dI bP res us os with
   |some tm=>wpG E ⟨d,g,op⟩ tm σ λv σ'=>Wq E pt dI bP r σ' (⟨i,d,v⟩::res) (adV (pt.getD i []) pd) Q
   |none=>False):=by
 grind[Wq,uO,TD,agw]
def agx(b:B):adi b b=b.kn:=by
 cases b<;>simp[adi,B.kn]
 case int k n=>cases n<;>simp[eqI]
 case sl b o n c=>cases c<;>simp[eqC]
def Zy:∀l:List B,MN l l=l.all B.kn
 |[]=>rfl
 |b::l=>by rw[cU];unfold MN;rw[agx b,Zy l]
def ale(l:List B):eqV (.agg l) (.agg l)=l.all B.kn:=Zy l
def atT(b:B):eqV (.c b) (.c b)=b.kn:=agx b
def jd(i:Nat)(d:Option Nat)(g9:Option (Nat×Bool))(op:vJ)(tm:Tr V)(v:V)(h:op.kind=.q)(h2:op.looks=false):again σ ⟨i,⟨d,g9,op⟩,tm,v,true,none⟩=true:=by grind[again]
def Zz(i:Nat)(d:Option Nat)(g9:Option (Nat×Bool))(n:Nat)(g:Bool)(x:O)(tm:Tr V)(v:V):again σ ⟨i,⟨d,g9,.load n g x⟩,tm,v,true,none⟩=match(match x.ev tm with|.c (.ptr b o)=>ld σ.h b o n g|_=>none)with|some u=>eqV u v|none=>false:=by rfl
def WH(i:Nat)(d:Option Nat)(g9:Option (Nat×Bool))(z:List B)(tm:Tr V)(v:V)(b:Nat):again σ ⟨i,⟨d,g9,.alloc z⟩,tm,v,true,some b⟩=match σ.h b with|some ⟨c,none⟩=>MN c z|_=>false:=by rfl
def adW(i:Nat)(d:Option Nat)(g9:Option (Nat×Bool))(e n:Nat)(z:List B)(ps:List (Nat×Nat×O))(tm:Tr V)(v:V)(b:Nat)(hn:n*e<=16777216)(hn2:n<=16777216):again σ ⟨i,⟨d,g9,.bsl e n z ps⟩,tm,v,true,some b⟩=match BP (rep z n) (ps.map λp=>(p.1,p.2.1,p.2.2.ev tm))with|some z=>(match σ.h b with|some ⟨c,none⟩=>MN c z|_=>false)|none=>false:=by grind[again,vJ.kind,nJ,vN]
end
def alf(σ:St)(i:Nat)(o:AO)(tm:Tr V)(v:V)(nm:Option Nat):again σ ⟨i,o,tm,v,false,nm⟩=true:=rfl
section
def E0:Env:=⟨λ_=>none,λ_ _ _=>none⟩
variable (dI bP tm:Tr V) (σ:St) (res:List Rs) (pd:List iO) (i:Nat) (us os:List Nat) (d:Option Nat) (g9:Option (Nat×Bool)) (l:List DO) (K:St→List Rs→List iO→Prop) (v:V)
def qR(g:Option (Nat×Bool))(dI bP:Tr V)(res:List Rs)(us os:List Nat)(σ:St)(pd:List iO)(i:Nat)(d:Option Nat)(op:vJ)(l:List DO)(K:St->List Rs->List iO->Prop):Prop:=match MO dI bP res us os with
 |some tm=>BA g tm (wpOp E0 op tm σ λv _=>uO dI bP l σ (⟨i,d,v⟩::res) (⟨i,⟨d,g,op⟩,tm,v,true,none⟩::pd) K) (uO dI bP l σ (⟨i,d,.tnil⟩::res) (⟨i,⟨d,g,op⟩,tm,.tnil,false,none⟩::pd) K)
 |none=>False
def atU(g:Option (Nat×Bool))(dI bP:Tr V)(res:List Rs)(us os:List Nat)(σ:St)(pd:List iO)(i:Nat)(d:Option Nat)(op:vJ)(l:List DO)(K:St->List Rs->List iO->Prop):qR g dI bP res us os σ pd i d op l K=match MO dI bP res us os with
 |some tm=>BA g tm (wpOp E0 op tm σ λv _=>uO dI bP l σ (⟨i,d,v⟩::res) (⟨i,⟨d,g,op⟩,tm,v,true,none⟩::pd) K) (uO dI bP l σ (⟨i,d,.tnil⟩::res) (⟨i,⟨d,g,op⟩,tm,.tnil,false,none⟩::pd) K)
 |none=>False:=rfl
def apY(x:O):uO dI bP (⟨i,us,os,⟨d,g9,.mov x⟩⟩::l) σ res pd K=qR g9 dI bP res us os σ pd i d (.mov x) l K:=qg E0 _ _ _ _ _ _ _ _ _ _ _ _ _ rfl
def apZ(x:O):again σ ⟨i,⟨d,g9,.mov x⟩,tm,v,true,none⟩=true:=jd _ _ _ _ _ _ _ rfl rfl
def alg(c a b:O):uO dI bP (⟨i,us,os,⟨d,g9,.pick c a b⟩⟩::l) σ res pd K=qR g9 dI bP res us os σ pd i d (.pick c a b) l K:=qg E0 _ _ _ _ _ _ _ _ _ _ _ _ _ rfl
def alh(c a b:O):again σ ⟨i,⟨d,g9,.pick c a b⟩,tm,v,true,none⟩=true:=jd _ _ _ _ _ _ _ rfl rfl
def ali(n:Nat)(g:Bool)(x:O):uO dI bP (⟨i,us,os,⟨d,g9,.load n g x⟩⟩::l) σ res pd K=qR g9 dI bP res us os σ pd i d (.load n g x) l K:=qg E0 _ _ _ _ _ _ _ _ _ _ _ _ _ rfl
def agy(n:Nat)(x:O):uO dI bP (⟨i,us,os,⟨d,g9,.BO n x⟩⟩::l) σ res pd K=qR g9 dI bP res us os σ pd i d (.BO n x) l K:=qg E0 _ _ _ _ _ _ _ _ _ _ _ _ _ rfl
def agz(n:Nat)(x:O):again σ ⟨i,⟨d,g9,.BO n x⟩,tm,v,true,none⟩=true:=jd _ _ _ _ _ _ _ rfl rfl
def agA(o n:Nat)(g:Bool)(x:O):uO dI bP (⟨i,us,os,⟨d,g9,.field o n g x⟩⟩::l) σ res pd K=qR g9 dI bP res us os σ pd i d (.field o n g x) l K:=qg E0 _ _ _ _ _ _ _ _ _ _ _ _ _ rfl
def agB(o n:Nat)(g:Bool)(x:O):again σ ⟨i,⟨d,g9,.field o n g x⟩,tm,v,true,none⟩=true:=jd _ _ _ _ _ _ _ rfl rfl
def agC(e:Nat)(x j:O):uO dI bP (⟨i,us,os,⟨d,g9,.EW e x j⟩⟩::l) σ res pd K=qR g9 dI bP res us os σ pd i d (.EW e x j) l K:=qg E0 _ _ _ _ _ _ _ _ _ _ _ _ _ rfl
def agD(e:Nat)(x j:O):again σ ⟨i,⟨d,g9,.EW e x j⟩,tm,v,true,none⟩=true:=jd _ _ _ _ _ _ _ rfl rfl
def ap0(n:Nat)(x:O):uO dI bP (⟨i,us,os,⟨d,g9,.ext n x⟩⟩::l) σ res pd K=qR g9 dI bP res us os σ pd i d (.ext n x) l K:=qg E0 _ _ _ _ _ _ _ _ _ _ _ _ _ rfl
def ap1(n:Nat)(x:O):again σ ⟨i,⟨d,g9,.ext n x⟩,tm,v,true,none⟩=true:=jd _ _ _ _ _ _ _ rfl rfl
def ap2(b:BinOp)(x y:O):uO dI bP (⟨i,us,os,⟨d,g9,.bin b x y⟩⟩::l) σ res pd K=qR g9 dI bP res us os σ pd i d (.bin b x y) l K:=qg E0 _ _ _ _ _ _ _ _ _ _ _ _ _ rfl
def ap3(b:BinOp)(x y:O):again σ ⟨i,⟨d,g9,.bin b x y⟩,tm,v,true,none⟩=true:=jd _ _ _ _ _ _ _ rfl rfl
def ap4(p:Bool)(x y:O):uO dI bP (⟨i,us,os,⟨d,g9,.eqb p x y⟩⟩::l) σ res pd K=qR g9 dI bP res us os σ pd i d (.eqb p x y) l K:=qg E0 _ _ _ _ _ _ _ _ _ _ _ _ _ rfl
def ap5(p:Bool)(x y:O):again σ ⟨i,⟨d,g9,.eqb p x y⟩,tm,v,true,none⟩=true:=jd _ _ _ _ _ _ _ rfl rfl
def agE(p:Bool)(x y:O):uO dI bP (⟨i,us,os,⟨d,g9,.E5 p x y⟩⟩::l) σ res pd K=qR g9 dI bP res us os σ pd i d (.E5 p x y) l K:=qg E0 _ _ _ _ _ _ _ _ _ _ _ _ _ rfl
def agF(p:Bool)(x y:O):again σ ⟨i,⟨d,g9,.E5 p x y⟩,tm,v,true,none⟩=true:=jd _ _ _ _ _ _ _ rfl rfl
def agG(p:Bool)(x y:O):uO dI bP (⟨i,us,os,⟨d,g9,.GR p x y⟩⟩::l) σ res pd K=qR g9 dI bP res us os σ pd i d (.GR p x y) l K:=qg E0 _ _ _ _ _ _ _ _ _ _ _ _ _ rfl
def agH(p:Bool)(x y:O):again σ ⟨i,⟨d,g9,.GR p x y⟩,tm,v,true,none⟩=true:=jd _ _ _ _ _ _ _ rfl rfl
def ap6(k:Nat)(p:Bool)(x:O):uO dI bP (⟨i,us,os,⟨d,g9,.nil k p x⟩⟩::l) σ res pd K=qR g9 dI bP res us os σ pd i d (.nil k p x) l K:=qg E0 _ _ _ _ _ _ _ _ _ _ _ _ _ rfl
def ap7(k:Nat)(p:Bool)(x:O):again σ ⟨i,⟨d,g9,.nil k p x⟩,tm,v,true,none⟩=true:=jd _ _ _ _ _ _ _ rfl rfl
def ap8(x:O):uO dI bP (⟨i,us,os,⟨d,g9,.not x⟩⟩::l) σ res pd K=qR g9 dI bP res us os σ pd i d (.not x) l K:=qg E0 _ _ _ _ _ _ _ _ _ _ _ _ _ rfl
def ap9(x:O):again σ ⟨i,⟨d,g9,.not x⟩,tm,v,true,none⟩=true:=jd _ _ _ _ _ _ _ rfl rfl
def alj(k:IntKind)(x:O):uO dI bP (⟨i,us,os,⟨d,g9,.conv k x⟩⟩::l) σ res pd K=qR g9 dI bP res us os σ pd i d (.conv k x) l K:=qg E0 _ _ _ _ _ _ _ _ _ _ _ _ _ rfl
def alk(k:IntKind)(x:O):again σ ⟨i,⟨d,g9,.conv k x⟩,tm,v,true,none⟩=true:=jd _ _ _ _ _ _ _ rfl rfl
def agI(z:List B)(ps:List (Nat×Nat×O)):uO dI bP (⟨i,us,os,⟨d,g9,.build z ps⟩⟩::l) σ res pd K=qR g9 dI bP res us os σ pd i d (.build z ps) l K:=qg E0 _ _ _ _ _ _ _ _ _ _ _ _ _ rfl
def agJ(z:List B)(ps:List (Nat×Nat×O)):again σ ⟨i,⟨d,g9,.build z ps⟩,tm,v,true,none⟩=true:=jd _ _ _ _ _ _ _ rfl rfl
def alm(f:Nat)(cs:List O):uO dI bP (⟨i,us,os,⟨d,g9,.PI f cs⟩⟩::l) σ res pd K=qR g9 dI bP res us os σ pd i d (.PI f cs) l K:=qg E0 _ _ _ _ _ _ _ _ _ _ _ _ _ rfl
def aln(f:Nat)(cs:List O):again σ ⟨i,⟨d,g9,.PI f cs⟩,tm,v,true,none⟩=true:=jd _ _ _ _ _ _ _ rfl rfl
def aqa(x:O):uO dI bP (⟨i,us,os,⟨d,g9,.len x⟩⟩::l) σ res pd K=qR g9 dI bP res us os σ pd i d (.len x) l K:=qg E0 _ _ _ _ _ _ _ _ _ _ _ _ _ rfl
def aqb(x:O):again σ ⟨i,⟨d,g9,.len x⟩,tm,v,true,none⟩=true:=jd _ _ _ _ _ _ _ rfl rfl
def agK(e:Nat)(x:O)(lo hi mx:Option O):uO dI bP (⟨i,us,os,⟨d,g9,.slice e x lo hi mx⟩⟩::l) σ res pd K=qR g9 dI bP res us os σ pd i d (.slice e x lo hi mx) l K:=qg E0 _ _ _ _ _ _ _ _ _ _ _ _ _ rfl
def agL(e:Nat)(x:O)(lo hi mx:Option O):again σ ⟨i,⟨d,g9,.slice e x lo hi mx⟩,tm,v,true,none⟩=true:=jd _ _ _ _ _ _ _ rfl rfl
def alo(x:O):uO dI bP (⟨i,us,os,⟨d,g9,.PK x⟩⟩::l) σ res pd K=qR g9 dI bP res us os σ pd i d (.PK x) l K:=qg E0 _ _ _ _ _ _ _ _ _ _ _ _ _ rfl
def alp(x:O):again σ ⟨i,⟨d,g9,.PK x⟩,tm,v,true,none⟩=true:=jd _ _ _ _ _ _ _ rfl rfl
def alq(x y:O):uO dI bP (⟨i,us,os,⟨d,g9,.min2 x y⟩⟩::l) σ res pd K=qR g9 dI bP res us os σ pd i d (.min2 x y) l K:=qg E0 _ _ _ _ _ _ _ _ _ _ _ _ _ rfl
def alr(x y:O):again σ ⟨i,⟨d,g9,.min2 x y⟩,tm,v,true,none⟩=true:=jd _ _ _ _ _ _ _ rfl rfl
end
def aqc{E:Env}{tm:Tr V}{σ:St}{Q:AX->Tr V->St->Prop}{d:Dr}{pt:List (List Nat)}{ds:List Nat}(h:Wq E pt tm (Zw tm ds) d σ [] [] λtm' σ'=>Q .normal tm' σ'):bI E (.drawn d pt ds) tm σ Q:=
 adA _ (Je tm ds) h
end Go.Proofs.Xe
end
