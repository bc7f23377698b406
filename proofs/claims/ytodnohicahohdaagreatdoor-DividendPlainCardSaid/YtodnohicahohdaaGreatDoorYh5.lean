import Derived.Test.YtodnohicahohdaaGreatDoorYh4
import Derived.Laws.StructEq
set_option linter.all false
namespace Go.Proofs.Xe
open Go.RowKit Go.Proofs.Ins
section
variable {P:Program} {N:Nat} {w0 w:World} {φ:Ph} {J:St} {tm:Tr V} {a:Act} {v:V}
theorem ax8{op:Op}{i:Nat}{y:O}(hi:jo P op (.ext i y)=true)(h:dA (.ext i y) tm J=some v)(ht:RT φ tm a):YQ P w φ a op v:=by
 simp only[jo]at hi;simp only[dA,ai2]at h;intro o ho;split at hi
 .next x j=>
  rw[af]at hi;have hx:=bW hi.1 ht;have hj:=aq hi.2;subst hj;split at h
  .next hy=>
   rw[hy]at hx;cases h;obtain⟨u,xs,e,h1,h2⟩:=hx;simp_all[execOp,Instr.extract]
  .next hy=>
   rw[hy]at hx;cases h;obtain⟨u,xs,e,h1,u2,xs2,e2,h3,h4⟩:=hx;simp_all[execOp,Instr.extract]
  .next hy=>
   rw[hy]at hx;cases h;obtain⟨u,xs,e,h1,u2,xs2,e2,h3,u3,xs3,e3,h5,h6⟩:=hx;simp_all[execOp,Instr.extract]
  .cases h
 grind
def Jl{k:IntKind}{n:Int}(h:mkI k n=some v):v=.c (.int k n)/\k.wrap n=n:=by grind[mkI,ai0,YO]
def KN{b:BinOp}{j k:IntKind}{x y:Int}(h:V4 b j x y=some v)(t:TypeId)(X Y:Operand):
  ∃cv,((do eqGuard b t X Y (.int j x) (.int k y);binOp b t (.int j x) (.int k y)):Sem Value).run P w=.ok cv w/\RV φ v cv:=by
 cases b<;>simp only[V4,reduceCtorEq]at h
 case shl=>
  by_cases h0:y<0
  .grind
  .rw[ap h0]at h;cases h;exact⟨_,by simp[eqGuard_at_int,binOp_shl,Op.shift,h0]<;>rfl,rfl⟩
 case shr=>
  by_cases h0:y<0
  .grind
  .rw[ap h0]at h;cases h;exact⟨_,by simp[eqGuard_at_int,binOp_shr,Op.shift,h0]<;>rfl,rfl⟩
def agj{b:BinOp}{k:IntKind}{x y:Int}(h:KH b k x y=some v)(t:TypeId)(X Y:Operand):
  ∃cv,((do eqGuard b t X Y (.int k x) (.int k y);binOp b t (.int k x) (.int k y)):Sem Value).run P w=.ok cv w/\RV φ v cv:=by
 cases b<;>simp only[KH]at h
 case add=>
  split at h
  .obtain⟨rfl,e⟩:=Jl h;exact⟨_,by simp[eqGuard_at_int,binOp_add,Op.intArith]<;>rfl,by rw[e];rfl⟩
  .simp only[zU]at h;cases h;exact⟨_,by simp_all[eqGuard_at_int,binOp_add,Op.intArith],rfl⟩
 case sub=>
  split at h
  .obtain⟨rfl,e⟩:=Jl h;exact⟨_,by simp[eqGuard_at_int,binOp_sub,Op.intArith]<;>rfl,by rw[e];rfl⟩
  .simp only[zU]at h;cases h;exact⟨_,by simp_all[eqGuard_at_int,binOp_sub,Op.intArith],rfl⟩
 case mul=>
  split at h
  .obtain⟨rfl,e⟩:=Jl h;exact⟨_,by simp[eqGuard_at_int,binOp_mul,Op.intArith]<;>rfl,by rw[e];rfl⟩
  .simp only[zU]at h;cases h;exact⟨_,by simp_all[eqGuard_at_int,binOp_mul,Op.intArith],rfl⟩
 case quo=>
  simp only[zU]at h;by_cases h0:y=0
  .grind
  .rw[ap h0]at h;cases h;exact⟨_,by simp_all[eqGuard_at_int,binOp_quo,Op.intDiv],rfl⟩
 case rem=>
  simp only[zU]at h;by_cases h0:y=0
  .grind
  .rw[ap h0]at h;cases h;exact⟨_,by simp_all[eqGuard_at_int,binOp_rem,Op.intDiv],rfl⟩
 case and=>simp only[zU]at h;cases h;exact⟨_,by simp_all[eqGuard_at_int,binOp_and,Op.intBits],rfl⟩
 case or=>simp only[zU]at h;cases h;exact⟨_,by simp_all[eqGuard_at_int,binOp_or,Op.intBits],rfl⟩
 case shl=>simp only[zU]at h;exact KN h t X Y
 case shr=>simp only[zU]at h;exact KN h t X Y
 case eql=>cases h;exact⟨.bool (x==y),by simp[eqGuard_at_int,binOp_eql],by rfl⟩
 case neq=>cases h;exact⟨.bool (x !=y),by simp[eqGuard_at_int,binOp_neq],by rfl⟩
 case lss=>cases h;exact⟨.bool (x<y),by simp[eqGuard_at_int,binOp_lss],rfl⟩
 case leq=>cases h;exact⟨.bool (x<=y),by simp[eqGuard_at_int,binOp_leq],rfl⟩
 case gtr=>cases h;exact⟨.bool (x>y),by simp[eqGuard_at_int,binOp_gtr],rfl⟩
 case geq=>cases h;exact⟨.bool (x>=y),by simp[eqGuard_at_int,binOp_geq],rfl⟩
 all_goals grind[zU,V4]
theorem ax9{op:Op}{b:BinOp}{x y:O}(hi:jo P op (.bin b x y)=true)(h:dA (.bin b x y) tm J=some v)(ht:RT φ tm a):YQ P w φ a op v:=by
 simp only[jo]at hi;simp only[dA]at h;intro o ho;split at hi
 .next b' t X Y _=>
  simp only[af,eQ]at hi;obtain⟨⟨⟨rfl,h1⟩,h2⟩,-⟩:=hi;have hx:=bW h1 ht;have hy:=bW h2 ht;unfold jk at h;split at h
  .next j p k q ex ey=>
   rw[ex]at hx;rw[ey]at hy;simp only[RV,RB]at hx hy;cases hk:decide (j=k)with
   |false=>
    rw[hk]at h
    obtain⟨cv,e1,e2⟩:=KN (P:=P) (w:=w) (φ:=φ) (k:=k) h t X Y
    refine⟨cv,?_,e2⟩
    simp only[execOp,ho,hx,hy]
    rw[Sem.run_bind,e1]
    rfl
   |true=>
    rw[hk]at h
    have hk:j=k:=cI hk
    subst hk
    obtain⟨cv,e1,e2⟩:=agj (P:=P) (w:=w) (φ:=φ) h t X Y
    refine⟨cv,?_,e2⟩
    simp only[execOp,ho,hx,hy]
    rw[Sem.run_bind,e1]
    rfl
  .next p q ex ey=>
   rw[ex]at hx;rw[ey]at hy;simp only[RV,RB]at hx hy;split at h
   .cases h;exact⟨_,by grind[execOp,eqGuard_at_string,Sem.run_pure,binOp,Op.stringOp,Wi],rfl⟩
   .cases h;exact⟨_,by grind[execOp,eqGuard_at_string,Sem.run_pure,binOp,Op.stringOp,Wi],rfl⟩
   .cases h
  .next p q ex ey=>
   rw[ex]at hx;rw[ey]at hy;simp only[RV,RB]at hx hy;split at h
   .cases h;exact⟨_,by grind[execOp,eqGuard_at_string,Sem.run_pure,binOp,Op.stringOp,PK],rfl⟩
   .cases h;exact⟨_,by simp only[execOp,ho,hx,hy,Sem.run_bind,eqGuard_at_string,Sem.run_pure,Result.andThen_ok,binOp,Op.stringOp,PK],rfl⟩
   .cases h
  .next p q ex ey=>
   rw[ex]at hx;rw[ey]at hy;simp only[RV,RB]at hx hy;cases hz:Nat.beq q.size 0 with
   |false=>rw[hz]at h;cases h
   |true=>
    rw[hz]at h
    have hq:q=bn 0:=by
     have h0:=aq hz;rw[N7];obtain⟨⟨l⟩⟩:=q;match l,h0 with
     |[],_=>rfl
     |x::l,h0=>simp[ByteArray.size]at h0
    rw[hq]at hy
    simp only[bB]at h
    split at h
    .cases h;exact⟨_,by simp only[execOp,ho,hx,hy,Sem.run_bind,eqGuard_at_string,Sem.run_pure,Result.andThen_ok,binOp,Op.stringOp,PK],rfl⟩
    .cases h;exact⟨_,by simp only[execOp,ho,hx,hy,Sem.run_bind,eqGuard_at_string,Sem.run_pure,Result.andThen_ok,binOp,Op.stringOp,PK],rfl⟩
    .cases h
  .cases h
 .next t Y=>
  simp only[af,eQ]at hi;obtain⟨⟨rfl,h2⟩,h3⟩:=hi;have hy:=bW h2 ht;split at h3
  .next k=>
   replace h:jk .sub (.c (.int k (.ofNat 0))) (y.ev tm)=some v:=h;obtain⟨q,ey,hv⟩:∃q,y.ev tm=.c (.int k q)/\KH .sub k 0 q=some v:=by
    revert h;generalize y.ev tm=z;intro h;unfold jk at h;split at h
    .next j p k' q ex=>
     cases ex;cases hk:decide (k=k')with
     |false=>rw[hk]at h;cases h
     |true=>
      rw[hk]at h
      have hk:=cI hk
      subst hk
      exact⟨q,rfl,h⟩
    all_goals simp_all
   rw[ey]at hy;simp only[RV,RB]at hy;have:∃cv,(Op.intArith .sub k 0 q:Sem Value).run P w=.ok cv w/\RV φ v cv:=by
    simp only[KH]at hv;split at hv
    .obtain⟨rfl,e⟩:=Jl hv;exact⟨_,by simp[Op.intArith]<;>rfl,by show _=_;rw[<-Int.zero_sub,e]⟩
    .simp only[zU]at hv;cases hv;exact⟨_,by simp[Op.intArith]<;>rfl,rfl⟩
   obtain⟨cv,e1,e2⟩:=this;refine⟨cv,?_,e2⟩;simp only[execOp,ho,hy,Op.unary];rw[Sem.run_bind,e1];rfl
  .cases h3
 grind
def aty{op:Op}{x i:O}(hi:jo P op (.Tz x i)=true)(h:dA (.Tz x i) tm J=some v)(ht:RT φ tm a):YQ P w φ a op v:=by
 simp only[jo]at hi;simp only[dA,ad9,jr]at h;intro o ho;split at hi
 .next t X I=>
  simp only[af]at hi;have hx:=bW hi.1.1 ht;have hj:=bW hi.1.2 ht;split at h
  .next s j ex ej=>
   rw[ex]at hx;rw[sS ej]at hj;simp only[RV,RB]at hx hj;split at h
   .next b hb=>
    cases h;obtain⟨hlt,hb⟩:=List.getElem?_eq_some_iff.mp hb;have h9:(0:Int)<=Int.ofNat j/\Int.ofNat j<s.size:=⟨by simp,by simp only[bX];exact_mod_cast hlt⟩
    refine⟨.int .u8 b.toNat,?_,rfl⟩;simp only[execOp,ho,hx,hj];rw[Sem.run_bind,run_index_string w t s .i64 _ (BF hi.2),dif_pos h9,<-hb];rfl
   .cases h
  .cases h
 .cases hi
def aoj{op:Op}{x i:O}(hi:jo P op (.Pv x i)=true)(h:dA (.Pv x i) tm J=some v)(ht:RT φ tm a):YQ P w φ a op v:=by
 simp only[jo]at hi;simp only[dA,ai6]at h;intro o ho;split at hi
 .next t X I=>
  simp only[af]at hi;have hx:=bW hi.1.1 ht;have hj:=bW hi.1.2 ht;split at h
  .next s j ex ej=>
   rw[ex]at hx;rw[sS ej]at hj;simp only[RV,RB]at hx hj;cases hb:Nat.ble j s.size with
   |false=>rw[hb]at h;cases h
   |true=>
    rw[hb]at h
    cases h
    have hb:=ax hb
    refine⟨_,?_,rfl⟩
    simp only[execOp,ho,hx,hj,Option.map_some,Option.map_none]
    rw[Sem.run_bind,run_sliceAt_string w t _ _ _ _ (BF hi.2),run_slice_string_from_if w t s .i64 _ (BF hi.2),ab ⟨by simp,by simp only[bX];exact_mod_cast hb⟩]
    have e:s.extract j s.size=⟨⟨s.data.toList.drop j⟩⟩:=by have h0:=Lib.extract_data s j s.size;rw[eh (by rw[fg];exact jp)]at h0;rw[<-h0]
    simp only[bX,gb,e]
    rfl
  .cases h
 .cases hi
theorem aya{op:Op}{p:Bool}{x y:O}(hi:jo P op (.eqb p x y)=true)(h:dA (.eqb p x y) tm J=some v)(ht:RT φ tm a):YQ P w φ a op v:=by
 simp only[jo]at hi;simp only[dA,ax0]at h;intro o ho;split at hi
 .next b t X Y _=>
  simp only[af]at hi;obtain⟨⟨⟨h0,h1⟩,h2⟩,h3⟩:=hi;have hx:=bW h1 ht;have hy:=bW h2 ht;split at h3
  .next hb=>
   split at h
   .next q r ex ey=>
    rw[ex]at hx;rw[ey]at hy;simp only[RV,RB]at hx hy;cases h;split at h0
    .rw[h0];exact⟨.bool (q==r),by grind[execOp,Sem.run_bind,eqGuard_at_bool,Sem.run_pure,Result.andThen_ok,run_eql_bool],by show Value.bool _=.bool _;simp⟩
    .have h0:p=false:=by grind
     rw[h0];exact⟨.bool (!(q==r)),by grind[execOp,Sem.run_bind,eqGuard_at_bool,Sem.run_pure,Result.andThen_ok,run_neq_bool],by show Value.bool _=.bool _;simp⟩
    grind
   .cases h
  grind
 grind
theorem ayb{op:Op}{x:O}(hi:jo P op (.not x)=true)(h:dA (.not x) tm J=some v)(ht:RT φ tm a):YQ P w φ a op v:=by
 simp only[jo]at hi;simp only[dA,ax2]at h;intro o ho;split at hi
 .have hx:=bW hi ht;split at h
  .next b e=>
   rw[e]at hx;simp only[RV,RB]at hx;cases h;exact⟨.bool (!b),by simp_all[execOp,Op.unary],rfl⟩
  .cases h
 grind
theorem atz{op:Op}{k:IntKind}{x:O}(hi:jo P op (.conv k x)=true)(h:dA (.conv k x) tm J=some v)(ht:RT φ tm a):YQ P w φ a op v:=by
 simp only[jo]at hi;simp only[dA,asi]at h;intro o ho;split at hi
 .next src dst X=>
  simp only[af]at hi;have hx:=bW hi.1.1 ht;have h2:=hi.2;obtain⟨d,hd⟩:=Option.isSome_iff_exists.mp hi.1.2;split at h2
  .next j hj=>
   have:=cI h2;subst this;split at h
   .next k' n e=>
    rw[e]at hx;simp only[RV,RB]at hx;cases hr:Ih j n with
    |false=>
     rw[hr]at h
     cases h
     refine⟨.int j (j.wrap n),?_,rfl⟩
     simp[execOp,ho,hx,convert,run_underlying hd,run_underlying hj,Conv.intToInt]
    |true=>
     rw[hr]at h
     cases h
     refine⟨.int j n,?_,rfl⟩
     simp[execOp,ho,hx,convert,run_underlying hd,run_underlying hj,Conv.intToInt,YO hr]
   .cases h
  grind
 grind
theorem atA{op:Op}{x:O}(hi:jo P op (.Tv x)=true)(h:dA (.Tv x) tm J=some v)(ht:RT φ tm a):YQ P w φ a op v:=by
 simp only[jo]at hi;simp only[dA,asn]at h;intro o ho;split at hi
 .have hx:=bW hi ht;split at h
  .next b off e=>
   rw[e]at hx;cases h;obtain⟨p,hp,e2⟩:=hx;exact⟨_,by simp_all[execOp],p,hp,rfl⟩
  .next f l e=>
   rw[e]at hx;cases h;obtain⟨r,e2,hr⟩:=hx;exact⟨_,by simp_all[execOp],r,rfl,hr⟩
  .cases h
 grind
theorem q_len{op:Op}{x:O}(hi:jo P op (.len x)=true)(h:dA (.len x) tm J=some v)(ht:RT φ tm a):YQ P w φ a op v:=by
 simp only[jo]at hi;simp only[dA,qlen]at h;intro o ho;split at hi
 .next c=>
  split at hi
  .next hc=>
   split at hi
   .next X t hX hT=>
    rw[af]at hi;have hx:=bW hi.1 ht;have h2:=hi.2;have hX:c.args= #[X]:=by grind
    have hT:c.argTypes= #[t]:=by grind
    split at h2
    .next el hel=>
     have hE:P.underlying t=some (.slice (P.elem t)):=by grind[Program.elem]
     split at h
     .next b off n cp e=>
      rw[e]at hx;obtain⟨p,K,e2⟩:∃p K,a.eval X=.slice (some p) n K:=by
       rcases hx with⟨p,K,hp,e2,-⟩|⟨hn,-,p,K,e2,-⟩
       .grind
       grind
      cases h;exact⟨.int .i64 n,by simp_all[execOp,resolve,invoke,builtin,run_len_slice,goInt],rfl⟩
     .next e=>
      rw[e]at hx;simp only[RV,RB]at hx;cases h;exact⟨.int .i64 0,by simp_all[execOp,resolve,invoke,builtin,run_len_slice,goInt],rfl⟩
     .cases h
    grind
   grind
  grind
 grind
def atB{op:Op}{x:O}(hi:jo P op (.slen x)=true)(h:dA (.slen x) tm J=some v)(ht:RT φ tm a):YQ P w φ a op v:=by
 simp only[jo]at hi;simp only[dA,ad8,jr]at h;intro o ho;split at hi
 .next c=>
  split at hi
  .next hc=>
   split at hi
   .next X t hX hT=>
    rw[af]at hi;have hx:=bW hi.1 ht;have hX:c.args= #[X]:=by rw[<-Array.toArray_toList (xs:=c.args),hX]
    have hT:c.argTypes= #[t]:=by rw[<-Array.toArray_toList (xs:=c.argTypes),hT]
    split at h
    .next s e=>
     rw[e]at hx;simp only[RV,RB]at hx;cases h;exact⟨.int .i64 s.size,by simp[execOp,ho,resolve,hc,hX,hT,invoke,builtin,hx,run_len_string w t _ s (BF hi.2),goInt],rfl⟩
    .cases h
   .cases hi
  .cases hi
 .cases hi
def YP:∀{l:List B}{r:List Value}{z:List UInt8},byL l=some z->lX φ l r->∃xs:List Int,r=xs.map (Value.int .u8)/\z=xs.map λn=>UInt8.ofNat n.toNat
 |[],[],z,h,_=>by cases h;exact⟨[],rfl,rfl⟩
 |.int .u8 (.ofNat n)::l,v::r,z,h,hr=>by
  unfold byL at h;split at h
  .next z' hz=>
   cases h;obtain⟨xs,e1,e2⟩:=YP hz hr.2;have e0:v=.int .u8 n:=hr.1;exact⟨(n:Int)::xs,by rw[e0,e1];rfl,by rw[e2];rfl⟩
  .cases h
def ajc:∀{l:List B}{z:List UInt8},byL l=some z->l.all B.kn=true
 |[],_,_=>rfl
 |.int .u8 (.ofNat n)::l,z,h=>by
  unfold byL at h;split at h
  .next z' hz=>rw[cw,ajc hz];rfl
  .cases h
def atC(hR:Rel N w0 φ J w){op:Op}{x:O}(hi:jo P op (.YF x)=true)(h:dA (.YF x) tm J=some v)(ht:RT φ tm a):YQ P w φ a op v:=by
 simp only[jo]at hi;simp only[dA,asl]at h;intro o ho;split at hi
 .next s t X=>
  simp only[af]at hi;have hx:=bW hi.1.1 ht;have h2:=hi.2;split at h2
  .next el hel=>
   split at h2
   .next k hk=>
    have:=cI h2;subst this;split at h
    .next b off n cp e=>
     rw[e]at hx;have hx:RB φ (.sl b off n (.ex cp)) (a.eval X):=hx;split at h
     .next bk hbk=>
      cases hb:(bk.rd&&Nat.ble (off+n) bk.cells.length)with
      |false=>rw[hb]at h;cases h
      |true=>
       rw[hb]at h
       rw[af]at hb
       have hle:=ax hb.2
       simp only[bB]at h
       split at h
       .next z hz=>
        cases h
        obtain⟨p,K,hp,e2,-⟩:=hx.resolve_right λh=>by cases h.2.1
        obtain⟨rs,h3,h4⟩:=hR.reads hbk hb.1 hp ((bk.cells.drop off).take n) off (λj x hj=>by
         rw[List.getElem?_take]at hj;split at hj
         .rwa[List.getElem?_drop]at hj
         .cases hj) (ajc hz)
        obtain⟨xs,e3,e4⟩:=YP hz h3
        have hl:xs.length=n:=by have:=h3.length;rw[e3,cg,cN,fg]at this;omega
        have:=run_convert_bytes_arg (P:=P) w s el hel hk p.1 off n K xs hl (λi hi=>h4 i _ (by rw[e3,List.getElem?_map,gj jb,ff,gj jb];rfl)) t (BF hi.1.2)
        refine⟨_,?_,rfl⟩
        simp only[execOp,ho,e2]
        rw[Sem.run_bind,this,e4]
        rfl
       .cases h
     .cases h
    .cases h
   .cases h2
  .cases h2
 .cases hi
theorem Ul(ht:RT φ tm a):∀{cs:List O}{l:List B}{xs:List Operand},abU tm cs=some l->abZ xs cs=true->lX φ l (xs.map a.eval)
 |[],l,[],h,_=>by simp only[abU,aT]at h;subst h;trivial
 |[],_,_::_,_,h=>by cases h
 |_::_,_,[],_,h=>by cases h
 |y::ys,l,x::xs,h,hc=>by
  unfold abZ at hc;rw[af]at hc;have hx:=bW hc.1 ht;unfold abU at h;split at h
  .next b l' e e2=>
   cases h;rw[e]at hx;exact⟨hx,Ul ht e2 hc.2⟩
  .cases h
theorem atD{op:Op}{f:Nat}{cs:List O}(hi:jo P op (.Tq f cs)=true)(h:dA (.Tq f cs) tm J=some v)(ht:RT φ tm a):YQ P w φ a op v:=by
 simp only[jo]at hi;simp only[dA,asj]at h;intro o ho;split at hi
 .next f' first caps=>
  simp only[af]at hi;have hf:=aq hi.1.1;subst hf;have hfirst:first= #[]:=by grind
  have hcs:=hi.2;split at h
  .next l hl=>
   cases h;refine⟨_,by simp[execOp,ho,Instr.makeFunc,hfirst];rfl,_,rfl,?_⟩;grind[Array.toList_map,Ul]
  .cases h
 grind
end
section
variable {P:Program} {N:Nat} {w0 w:World} {φ:Ph} {J:St} {tm:Tr V} {a:Act} {v:V}
def atE(d:Nat){t el:TypeId}(h:P.underlying t=some (.slice el))(b:Addr)(n k:Nat):(Op.equalIn (d+1) t (.slice (some b) n k) (.slice none 0 0)).run P w=.ok false w:=by simp[Op.equalIn,run_underlying h]
def aok(d:Nat){t el:TypeId}(h:P.underlying t=some (.slice el)):(Op.equalIn (d+1) t (.slice none 0 0) (.slice none 0 0)).run P w=.ok true w:=by simp[Op.equalIn,run_underlying h]
def aol(d:Nat){t el:TypeId}(h:P.underlying t=some (.pointer el))(b:Addr):(Op.equalIn (d+1) t (.pointer (some b)) (.pointer none)).run P w=.ok false w:=by simp[Op.equalIn,run_underlying h]
def ajd(d:Nat){t el:TypeId}(h:P.underlying t=some (.pointer el)):(Op.equalIn (d+1) t (.pointer none) (.pointer none)).run P w=.ok true w:=by simp[Op.equalIn,run_underlying h]
def atF(d:Nat){t:TypeId}{x y:Array TypeId}{z:Bool}(h:P.underlying t=some (.func x y z))(f:Fn)(p q:Array Value):(Op.equalIn (d+1) t (.func f p q) .nilFunc).run P w=.ok false w:=by simp[Op.equalIn,run_underlying h]
def aje(d:Nat){t:TypeId}{x y:Array TypeId}{z:Bool}(h:P.underlying t=some (.func x y z)):(Op.equalIn (d+1) t .nilFunc .nilFunc).run P w=.ok true w:=by simp[Op.equalIn,run_underlying h]
def F7{b:BinOp}{t:TypeId}{X:Operand}{c r:Value}{Y:TypeId}{p q:Bool}(h0:(match b with|.eql=>p|.neq=>!p|_=>false)=true)(hr:a.eval X=r)
  (hg:eqGuard b t X (.const c) r c=pure ()) (he:(Op.equal t r c).run P w=.ok q w)
  (hb1:binOp .eql t r c=(do pure (.bool (<-Op.equal t r c)))) (hb2:binOp .neq t r c=(do pure (.bool (!(<-Op.equal t r c))))) (o:Oper) (ho:o.op=.binOp b t X (.const c) Y):
  (execOp a.eval o).run P w=.ok (.value (.bool (p==q))) w:=by
 have hc:a.eval (.const c)=c:=rfl
 simp only[execOp,ho,hr,hc,hg]
 split at h0
 .simp_all
 .simp_all
 grind
theorem ayc{op:Op}{k:Nat}{p:Bool}{x:O}(hi:jo P op (.nil k p x)=true)(h:dA (.nil k p x) tm J=some v)(ht:RT φ tm a):YQ P w φ a op v:=by
 simp only[jo]at hi;simp only[dA,ax1]at h;intro o ho;split at hi
 .next b t X Y _=>
  simp only[af]at hi;obtain⟨⟨h0,h1⟩,h3⟩:=hi;have hx:=bW h1 ht;split at h3
  .next el ht'=>
   split at h
   .next e=>
    rw[e]at hx;obtain⟨m,pp,K,e2⟩:∃m pp K,a.eval X=.slice (some pp) m K:=by
     rcases hx with⟨pp,K,-,e2,-⟩|⟨-,-,pp,K,e2,-⟩
     .grind
     grind
    cases h;refine⟨_,F7 h0 e2 (eqGuard_at_slice ..) (q:=false) (atE 9999 ht' _ _ _) rfl rfl o ho,?_⟩;show Value.bool _=.bool _;simp
   .next e=>
    rw[e]at hx;have hx:a.eval X=.slice none 0 0:=hx;cases h;refine⟨_,F7 h0 hx (eqGuard_at_slice ..) (q:=true) (aok 9999 ht') rfl rfl o ho,?_⟩;show Value.bool _=.bool _;simp
   all_goals(first|(exfalso;simp_all;done)|(cases h;done))
  .next el ht'=>
   split at h
   .simp_all
   .simp_all
   .next e=>
    rw[e]at hx;obtain⟨pp,-,e2⟩:=hx;cases h;refine⟨_,F7 h0 e2 (eqGuard_at_pointer ..) (q:=false) (aol 9999 ht' _) rfl rfl o ho,?_⟩;show Value.bool _=.bool _;simp
   .next e=>
    rw[e]at hx;have hx:a.eval X=.pointer none:=hx;cases h;refine⟨_,F7 h0 hx (eqGuard_at_pointer ..) (q:=true) (ajd 9999 ht') rfl rfl o ho,?_⟩;show Value.bool _=.bool _;simp
   all_goals(first|(exfalso;simp_all;done)|(cases h;done))
  .next el ht'=>
   split at h
   .simp_all
   .simp_all
   .simp_all
   .simp_all
   .next e=>
    rw[e]at hx;obtain⟨r,e2,-⟩:=hx;cases h;refine⟨_,F7 h0 e2 (eqGuard_at_func ..) (q:=false) (atF 9999 ht' _ _ _) rfl rfl o ho,?_⟩;show Value.bool _=.bool _;simp
   .next e=>
    rw[e]at hx;have hx:a.eval X=.nilFunc:=hx;cases h;refine⟨_,F7 h0 hx (eqGuard_at_nilFunc ..) (q:=true) (aje 9999 ht') rfl rfl o ho,?_⟩;show Value.bool _=.bool _;simp
   .cases h
  grind
 grind
def qW{x:B}{n:Nat}{u:Value}(h:x.num=some n)(hu:RB φ x u):u=.string (bn n):=by
 unfold B.num at h;split at h
 .cases h;exact hu
 .next s=>
  rw[pR]at h;split at h
  .next h0=>
   cases h;have hu:u=.string s:=hu;rw[hu,N7];congr 1;obtain⟨⟨l⟩⟩:=s;grind[ByteArray.size]
  .cases h
 .cases h
def YR{x y:B}{r:Bool}{u v:Value}(h:eqS x y=some r)(hu:RB φ x u)(hv:RB φ y v):∃s t,u=.string s/\v=.string t/\(s.toList==t.toList)=r:=by
 unfold eqS at h;split at h
 .cases h;exact⟨_,_,hu,hv,Wi _ _⟩
 .split at h
  .next h1 h2=>
   cases h;exact⟨_,_,qW h1 hu,qW h2 hv,PK _ _⟩
  .cases h
def ajf{l r:List B}{b:Bool}{xs ys:Array Value}(h:eqB l r=some b)(hx:lX φ l xs.toList)(hy:lX φ r ys.toList){t:TypeId}(ht:aeb P t=true):
  (Op.equalIn 10000 t (.agg xs) (.agg ys)).run P w=.ok b w:=by
 unfold eqB at h
 split at h
 .next a1 b1 c1 d1 e1 f1=>
  split at h
  rotate_left
  .cases h
  next r1 r2 hr1 hr2=>
  cases h
  unfold aeb at ht
  split at ht
  .next fs hfs=>
   split at ht
   .next f g k hl=>
    simp only[af,eC]at ht
    obtain⟨⟨⟨⟨⟨⟨⟨⟨n1,n2⟩,n3⟩,o1⟩,o2⟩,o3⟩,hty⟩,hs⟩,hg⟩:=ht
    have o1:=aq o1
    have o2:=aq o2
    have o3:=aq o3
    have hF:P.fieldsOf t=fs:=by simp[Program.fieldsOf,hfs]
    obtain⟨xl⟩:=xs
    obtain⟨yl⟩:=ys
    match xl,hx with
    |[x1,x2,x3],⟨hx1,hx2,hx3,_⟩=>
     match yl,hy with
     |[y1,y2,y3],⟨hy1,hy2,hy3,_⟩=>
      obtain⟨s2,t2',rfl,rfl,q1⟩:=YR hr1 hx2 hy2
      obtain⟨s3,t3',rfl,rfl,q2⟩:=YR hr2 hx3 hy3
      clear hx2 hx3 hy2 hy3
      simp only[RB]at hx1 hy1
      subst hx1 hy1
      split at hty
      .next t1 t2 t3=>
       rw[run_equalIn_struct w 9999 t _ _ kd hs,hF,hl]
       have i1:(isAgg f.type).run P w=.ok false w:=by simp[isAgg,run_underlying t1]
       have i2:(isAgg g.type).run P w=.ok false w:=by simp[isAgg,run_underlying t2]
       have i3:(isAgg k.type).run P w=.ok false w:=by simp[isAgg,run_underlying t3]
       have n1:f.name≠ "_" :=by grind
       have n2:g.name≠ "_" :=by grind
       have n3:k.name≠ "_" :=by grind
       simp only[Op.eqFields,ab n1,ab n2,ab n3,Sem.run_bind,part,i1,i2,i3,Result.andThen_ok,o1,o2,o3,cE,ib,List.getElem?_toArray,List.getElem?_cons_zero,List.getElem?_cons_succ,Sem.run_pure,run_equalIn_bool w 9998 _ _ _ t1,run_equalIn_string w 9998 _ _ _ t2,run_equalIn_string w 9998 _ _ _ t3,q1,q2,Sem.run_ite]
       grind
      grind
   grind
  grind
 .cases h
def ajg{l r:List B}{b:Bool}{xs ys:Array Value}(h:eqL l r=some b)(hx:lX φ l xs.toList)(hy:lX φ r ys.toList){t:TypeId}(ht:YL P t=true):
  (Op.equalIn 10000 t (.agg xs) (.agg ys)).run P w=.ok b w:=by
 unfold eqL at h
 split at h
 .next a1 b1 c1 d1=>
  cases h
  unfold YL at ht
  split at ht
  .next fs hfs=>
   split at ht
   .next f g hl=>
    simp only[af,eC]at ht
    obtain⟨⟨⟨⟨⟨⟨n1,n2⟩,o1⟩,o2⟩,hty⟩,hs⟩,hg⟩:=ht
    have o1:=aq o1
    have o2:=aq o2
    have hF:P.fieldsOf t=fs:=by simp[Program.fieldsOf,hfs]
    obtain⟨xl⟩:=xs
    obtain⟨yl⟩:=ys
    match xl,hx with
    |[x1,x2],⟨hx1,hx2,_⟩=>
     match yl,hy with
     |[y1,y2],⟨hy1,hy2,_⟩=>
      simp only[RB]at hx1 hy1 hx2 hy2
      subst hx1 hy1 hx2 hy2
      split at hty
      .next j1 j2 t1 t2=>
       rw[run_equalIn_struct w 9999 t _ _ kd hs,hF,hl]
       have i1:(isAgg f.type).run P w=.ok false w:=by simp[isAgg,run_underlying t1]
       have i2:(isAgg g.type).run P w=.ok false w:=by simp[isAgg,run_underlying t2]
       have n1:f.name≠ "_" :=by grind
       have n2:g.name≠ "_" :=by grind
       simp only[Op.eqFields,ab n1,ab n2,Sem.run_bind,part,i1,i2,Result.andThen_ok,o1,o2,cE,ib,List.getElem?_toArray,List.getElem?_cons_zero,List.getElem?_cons_succ,Sem.run_pure,run_equalIn_int w 9998 _ _ _ _ _ t1,run_equalIn_int w 9998 _ _ _ _ _ t2,Sem.run_ite]
       grind
      grind
   grind
  grind
 .cases h
theorem aom{op:Op}{p:Bool}{x y:O}(hi:jo P op (.Hu p x y)=true)(h:dA (.Hu p x y) tm J=some v)(ht:RT φ tm a):YQ P w φ a op v:=by
 simp only[jo]at hi;simp only[dA,ai4]at h;intro o ho;split at hi
 .next b t X Y _=>
  simp only[af]at hi;obtain⟨⟨⟨h0,h1⟩,h2⟩,h3⟩:=hi;have hx:=bW h1 ht;have hy:=bW h2 ht;split at h
  .next l r ex ey=>
   rw[ex]at hx;rw[ey]at hy;obtain⟨xs,e1,hxs⟩:=hx;obtain⟨ys,e2,hys⟩:=hy;split at h
   .next q hq=>
    cases h;have hE:=ajf (P:=P) (w:=w) hq hxs hys h3;have hg:P.eqGuardType P.depth t=false:=by grind[aeb]
    refine⟨.bool (p==q),?_,rfl⟩;simp only[execOp,ho,e1,e2,Sem.run_bind,run_eqGuard_agg (P:=P) w b t X Y xs ys hg,Result.andThen_ok];split at h0
    .simp_all[run_eql_struct]
    .simp_all[run_neq_struct]
    grind
   .cases h
  .cases h
 grind
theorem aon{op:Op}{p:Bool}{x y:O}(hi:jo P op (.Jg p x y)=true)(h:dA (.Jg p x y) tm J=some v)(ht:RT φ tm a):YQ P w φ a op v:=by
 simp only[jo]at hi;simp only[dA,ai3]at h;intro o ho;split at hi
 .next b t X Y _=>
  simp only[af]at hi;obtain⟨⟨⟨h0,h1⟩,h2⟩,h3⟩:=hi;have hx:=bW h1 ht;have hy:=bW h2 ht;split at h
  .next l r ex ey=>
   rw[ex]at hx;rw[ey]at hy;obtain⟨xs,e1,hxs⟩:=hx;obtain⟨ys,e2,hys⟩:=hy;split at h
   .next q hq=>
    cases h;have hE:=ajg (P:=P) (w:=w) hq hxs hys h3;have hg:P.eqGuardType P.depth t=false:=by grind[YL]
    refine⟨.bool (p==q),?_,rfl⟩;simp only[execOp,ho,e1,e2,Sem.run_bind,run_eqGuard_agg (P:=P) w b t X Y xs ys hg,Result.andThen_ok];split at h0
    .simp_all[run_eql_struct]
    .simp_all[run_neq_struct]
    grind
   .cases h
  .cases h
 grind
end
section
variable {P:Program} {N:Nat} {w0 w:World} {φ:Ph} {J:St} {tm:Tr V} {a:Act} {v:V}
def foldl_set(o:Nat):∀(l:List Value) (i:Nat) (cs:Array Value),o+i+l.length<=cs.size->
  ((l.zipIdx i).foldl (λ(cs:Array Value) (x:Value×Nat)=>cs.setIfInBounds (o+x.2) x.1) cs).toList=cs.toList.take (o+i)++l++cs.toList.drop (o+i+l.length)
 |[],i,cs,h=>by simp
 |x::l,i,cs,h=>by
  rw[List.zipIdx_cons,List.foldl_cons];simp only[bA]at h;have hi:o+i<cs.toList.length:=by grind
  rw[foldl_set o l (i+1) _ kd];simp only[Array.toList_setIfInBounds,bA];rw[show o+(i+1)=o+i+1 by omega,List.take_set,List.take_add_one,List.drop_set];rw[ab jb];have h1:(cs.toList.take (o+i)).length=o+i:=by grind
  rw[gj hi];simp only[Option.toList_some];rw[List.set_append_right _ _ jb,h1];grind
def KO(ht:RT φ tm a)(pl:Nat->Option (Nat×Nat)):∀(ps:List (Nat×Operand)) (qs:List (Nat×Nat×O)) (z l:List B) (cs:Array Value),Jj pl ps qs=true->
  Em z (qs.map λp=>(p.1,p.2.1,p.2.2.ev tm))=some l->lX φ z cs.toList->∃r,Instr.fill pl cs (ps.map λx=>(x.1,a.eval x.2))=some r/\lX φ l r.toList/\r.size=cs.size
 |[],[],z,l,cs,_,h,hz=>by simp only[List.map_nil,Em,aT]at h;subst h;exact⟨cs,rfl,hz,rfl⟩
 |[],_::_,_,_,_,h,_,_=>by cases h
 |_::_,[],_,_,_,h,_,_=>by cases h
 |(i,x)::ps,(o,n,y)::qs,z,l,cs,hp,h,hz=>by
  unfold Jj at hp;simp only[af]at hp;obtain⟨⟨hp1,hp2⟩,hp3⟩:=hp;have hx:=bW hp2 ht;simp only[List.map_cons,Em]at h;split at hp1
  .next p q hpl=>
   rw[af]at hp1;have e1:=aq hp1.1;have e2:=aq hp1.2;subst e1 e2;split at h
   .next lc hlc=>
    have hc:=hx.cells hlc;cases hb:Nat.beq lc.length q with
    |false=>grind
    |true=>
     rw[hb]at h
     have hb:=aq hb
     simp only[bB]at h
     split at h
     .next z' hz'=>
      obtain⟨h1,h2⟩:=V9 p z lc z' _ _ hz' hz hc
      have hsz:(a.eval x).cells.size=q:=by rw[<-hb,hc.length,cD]
      have hcs:z.length=cs.size:=by rw[hz.length,cD]
      have hfold:((a.eval x).cells.zipIdx.foldl (λcs x=>cs.setIfInBounds (p+x.2) x.1) cs).toList=cs.toList.take p++(a.eval x).cells.toList++cs.toList.drop (p+(a.eval x).cells.toList.length):=by rw[<-Array.foldl_toList,Array.toList_zipIdx];simp_all[foldl_set]
      have hsz2:((a.eval x).cells.zipIdx.foldl (λcs x=>cs.setIfInBounds (p+x.2) x.1) cs).size=cs.size:=by rw[<-cD,hfold];simp only[az,cN,fg,cD];omega
      obtain⟨r,hr1,hr2,hr3⟩:=KO ht pl ps qs z' l _ hp3 h (by rw[hfold];exact h2)
      refine⟨r,?_,hr2,by rw[hr3,hsz2]⟩
      simp only[List.map_cons,Instr.fill,hpl]
      rw[ae (by simp only[hsz,Bool.or_eq_true,eQ];simp;omega)]
      exact hr1
     .cases h
   .cases h
  grind
def H6:∀(fs:List Field) (l:List (Nat×Nat)) (w:World),placesOf P fs=some l->(fs.mapM λf=>(do pure (f.offset,<-sizeOf f.type):Sem (Nat×Nat))).run P w=.ok l w
 |[],l,w,h=>by simp_all[placesOf]
 |f::fs,l,w,h=>by
  unfold placesOf at h;split at h
  .next i l' hi hl'=>
   cases h;simp[sizeOf,typeInfo,hi];have:=H6 fs l' w hl';simp only[sizeOf,typeInfo]at this;simp at this;rw[this];rfl
  .cases h
theorem aoo{op:Op}{z:List B}{ps:List (Nat×Nat×O)}(hi:jo P op (.build z ps)=true)(h:dA (.build z ps) tm J=some v)(ht:RT φ tm a):YQ P w φ a op v:=by
 simp only[jo]at hi;simp only[dA,ai5]at h;intro o ho;split at hi
 .next t parts=>
  rw[af]at hi;obtain⟨h1,h2⟩:=hi;split at h1
  .next i aog=>
   split at h1
   .next zv hzv=>
    split at h2
    .next fs hfs=>
     split at h2
     .next pl hpl=>
      split at h
      .next l hl=>
       cases h;obtain⟨r,e1,e2,-⟩:=KO ht _ _ _ z l zv.cells h2 hl (Ob h1);refine⟨.agg r,?_,r,rfl,e2⟩;have hm:(fs.mapM λf=>(do pure (f.offset,<-sizeOf f.type):Sem (Nat×Nat))).run P w=.ok pl.toArray w:=by rw[Array.mapM_eq_mapM_toList,Sem.run_map,H6 _ _ w hpl];rfl
       simp only[execOp,ho,Instr.build,zeroValue,typeInfo,Sem.run_bind,run_program,Result.andThen_ok,aog,Sem.run_pure,hzv,run_underlying hfs,hm];simp_all
      .cases h
     grind
    grind
   grind
  grind
 grind
def yJ(ht:RT φ tm a){x:Option Operand}{y:Option O}{d l:Nat}(h:PI x y=true)(hc:YG y tm d=some l):
  (x.map a.eval=none/\l=d)\/x.map a.eval=some (.int .i64 (l:Int)):=by
 unfold PI at h
 split at h
 .grind[YG]
 .next x y=>
  simp only[YG]at hc
  have:=bW h ht
  grind[sS,RV,RB]
 .cases h
def Eo{len cap l h:Nat}{lo hi:Option Value}(h1:(lo=none/\l=0)\/lo=some (.int .i64 (l:Int)))(h2:(hi=none/\h=len)\/hi=some (.int .i64 (h:Int)))(hlh:l<=h)(hc:h<=cap):
  (Instr.sliceBounds true len cap lo hi none).run P w=.ok (l,h,cap) w:=by
 have e1:(l:Int)<=(h:Int):=jb
 have e2:(h:Int)<=(cap:Int):=jb
 have e3:(0:Int)<=(h:Int):=jb
 rcases h1 with⟨rfl,rfl⟩|rfl<;>rcases h2 with⟨rfl,rfl⟩|rfl<;>
  simp[Instr.sliceBounds,run_sliceBound,hlh,hc,e1,e2,e3]
def CS{len cap h m:Nat}{lo:Option Value}(h1:lo=none\/lo=some (.int .i64 (0:Int)))(hm:h<=m)(hc:m<=cap):
  (Instr.sliceBounds true len cap lo (some (.int .i64 (h:Int))) (some (.int .i64 (m:Int)))).run P w=.ok (0,h,m) w:=by
 rcases h1 with rfl|rfl<;>
  simp[Instr.sliceBounds,run_sliceBound,(by omega:(h:Int)<=(m:Int)),(by omega:(m:Int)<=(cap:Int))]
theorem aop{op:Op}{e:Nat}{y:O}{lo' hi' mx':Option O}(hi:jo P op (.slice e y lo' hi' mx')=true)(h:dA (.slice e y lo' hi' mx') tm J=some v)(ht:RT φ tm a):YQ P w φ a op v:=by
 simp only[jo]at hi;simp only[dA,Py]at h;intro o ho;split at hi
 .next t x lo hh mx=>
  simp only[af]at hi;obtain⟨⟨⟨⟨⟨i1,i2⟩,i3⟩,i4⟩,i5⟩,i6⟩:=hi;split at i6
  .next el hel=>
   have hs:=BD i6;have hE:P.elem t=el:=by simp[Program.elem,hel]
   have hE':P.underlying t=some (.slice (P.elem t)):=by grind
   have hx:=bW i1 ht;have run:∀(A:Option Addr) (n K l h m:Nat),a.eval x=.slice A n K->(Instr.sliceBounds true n K (lo.map a.eval) (hh.map a.eval) (mx.map a.eval)).run P w=.ok (l,h,m) w->
     (execOp a.eval o).run P w=.ok (.value (sliced A l h m e)) w:=λA n K l h m hA hB=>by
    simp_all[execOp,run_sliceAt_slice,run_slice_any]
   split at h
   .next b off n c ex=>
    rw[ex]at hx;rcases hx with⟨p,K,hp,e2,hnK,hKM,hcap⟩|⟨rfl,rfl,A,K,e2,hKM⟩
    rotate_left
    .split at h
     .next l q hl hq=>
      cases hb:(Nat.ble l q&&Nat.ble q 0)with
      |false=>grind
      |true=>
       rw[hb]at h
       rw[af]at hb
       have b1:=ax hb.1
       have b2:=ax hb.2
       have q0:q=0:=jb
       have l0:l=0:=jb
       subst q0 l0
       have c1:=yJ ht i2 hl
       have c2:=yJ ht i3 hq
       simp only[bB]at h
       split at h
       .cases h
        have hm0:mx=none:=by grind[PI]
        have hB:=Eo (P:=P) (w:=w) (len:=0) (cap:=K) c1 c2 jp (aR _)
        rw[hm0]at run
        have hrun:=run _ 0 K 0 0 K e2 hB
        refine⟨_,hrun,.inr ?_⟩
        grind[sliced]
       .next y'=>
        split at h
        .next m hm=>
         cases hk:(Nat.ble 0 m&&Nat.ble m 0)with
         |false=>grind
         |true=>
          rw[hk]at h
          cases h
          rw[af]at hk
          have m0:m=0:=by have:=ax hk.2;omega
          subst m0
          cases mx with
          |none=>simp[PI]at i4
          |some mm=>
           have hmm:a.eval mm=.int .i64 ((0:Nat):Int):=by have:=bW i4 ht;rw[sS hm]at this;exact this
           cases hh with
           |none=>simp at i5
           |some hv=>
            have hhv:a.eval hv=.int .i64 ((0:Nat):Int):=by
             rcases c2 with⟨c,_⟩|c
             .cases c
             .simpa using c
            have hB:=CS (P:=P) (w:=w) (len:=0) (cap:=K) (h:=0) (m:=0) (lo:=lo.map a.eval) (c1.imp (·.1) id) jp (aR _)
            have hrun:=run _ 0 K 0 0 0 e2 (by simpa [hmm,hhv]using hB)
            refine⟨_,hrun,.inr ⟨rfl,rfl,A,0,?_,jb⟩⟩
            simp[sliced]
        .cases h
     .cases h
    split at h
    .next l q hl hq=>
     cases hb:(Nat.ble l q&&Nat.ble q n)with
     |false=>rw[hb]at h;cases h
     |true=>
      rw[hb]at h
      rw[af]at hb
      have b1:=ax hb.1
      have b2:=ax hb.2
      have c1:=yJ ht i2 hl
      have c2:=yJ ht i3 hq
      simp only[bB]at h
      split at h
      .have hm0:mx=none:=by
        cases mx with
        |none=>rfl
        |some m=>simp[PI]at i4
       have hB:=Eo (P:=P) (w:=w) (len:=n) (cap:=K) c1 c2 b1 jb
       rw[hm0]at run
       have hrun:=run _ n K l q K e2 hB
       split at h
       .next k=>
        cases hk:Nat.blt l k with
        |false=>
         rw[hk]at h
         simp only[dT]at h
         cases h
         have hge:k<=l:=by
          by_cases hh:l<k
          .exact absurd (di hh) (by rw[show Nat.ble (l+1) k=Nat.blt l k from rfl,hk];decide)
          .omega
         simp only[ai9]at hcap
         have hql:q-l=0:=jb
         refine⟨_,hrun,.inr ?_⟩
         simp only[sliced,hql]
         by_cases hKl:K=l
         .rw[ab hKl];exact⟨trivial,trivial,_,_,rfl,jb⟩
         .rw[ae hKl];exact⟨trivial,trivial,_,_,rfl,jb⟩
        |true=>
         rw[hk]at h
         simp only[bB,jr]at h
         cases h
         have hk:l<k:=ax hk
         simp only[ai9]at hcap
         subst hcap
         refine⟨_,hrun,.inl ⟨p,K-l,hp,?_,jb,jb,rfl⟩⟩
         simp only[sliced]
         rw[ae jb]
         simp[Addr.add_lit]
       .cases hk:Nat.beq l 0 with
        |true=>
         rw[hk]at h
         cases h
         have hk:=aq hk
         subst hk
         refine⟨_,hrun,.inl ⟨p,K,hp,?_,jb,jb,hcap⟩⟩
         simp only[sliced]
         simp[Addr.add_lit]
        |false=>
         rw[hk]at h
         simp only[dT]at h
         cases hk2:Nat.blt l n with
         |false=>
          rw[hk2]at h
          simp only[dT]at h
          cases h
          have hge:n<=l:=by
           by_cases hh:l<n
           .exact absurd (di hh) (by rw[show Nat.ble (l+1) n=Nat.blt l n from rfl,hk2];decide)
           .omega
          have hql:q-l=0:=jb
          refine⟨_,hrun,.inr ?_⟩
          simp only[sliced,hql]
          by_cases hKl:K=l
          .rw[ab hKl];exact⟨trivial,trivial,_,_,rfl,jb⟩
          .rw[ae hKl];exact⟨trivial,trivial,_,_,rfl,jb⟩
         |true=>
          rw[hk2]at h
          simp only[bB,jr]at h
          cases h
          have hk2:l<n:=ax hk2
          refine⟨_,hrun,.inl ⟨p,K-l,hp,?_,jb,jb,trivial⟩⟩
          simp only[sliced]
          rw[ae jb]
          simp[Addr.add_lit]
       .cases hk2:Nat.blt l n with
        |false=>
         rw[hk2]at h
         simp only[dT]at h
         cases h
         have hge:n<=l:=by
          by_cases hh:l<n
          .exact absurd (di hh) (by rw[show Nat.ble (l+1) n=Nat.blt l n from rfl,hk2];decide)
          .omega
         have hql:q-l=0:=jb
         refine⟨_,hrun,.inr ?_⟩
         simp only[sliced,hql]
         by_cases hKl:K=l
         .rw[ab hKl];exact⟨trivial,trivial,_,_,rfl,jb⟩
         .rw[ae hKl];exact⟨trivial,trivial,_,_,rfl,jb⟩
        |true=>
         rw[hk2]at h
         simp only[bB,jr]at h
         cases h
         have hk2:l<n:=ax hk2
         refine⟨_,hrun,.inl ⟨p,K-l,hp,?_,jb,jb,trivial⟩⟩
         simp only[sliced]
         rw[ae jb]
         simp[Addr.add_lit]
      .next y'=>
       split at h
       .next m hm=>
        cases hk:(Nat.ble q m&&Nat.ble m n)with
        |false=>rw[hk]at h;cases h
        |true=>
         rw[hk]at h
         simp only[bB]at h
         cases hk0:Nat.beq l 0 with
         |false=>rw[hk0]at h;cases h
         |true=>
          rw[hk0]at h
          cases h
          have hk0:=aq hk0
          subst hk0
          rw[af]at hk
          have k1:=ax hk.1
          have k2:=ax hk.2
          cases mx with
          |none=>simp[PI]at i4
          |some mm=>
           have hmm:a.eval mm=.int .i64 (m:Int):=by have:=bW i4 ht;rw[sS hm]at this;exact this
           cases hh with
           |none=>simp at i5
           |some hv=>
            have hhv:a.eval hv=.int .i64 (q:Int):=by
             rcases c2 with⟨c,_⟩|c
             .cases c
             .simpa using c
            have hB:=CS (P:=P) (w:=w) (len:=n) (cap:=K) (h:=q) (m:=m) (lo:=lo.map a.eval) (c1.imp (·.1) id) k1 jb
            have hrun:=run _ n K 0 q m e2 (by simpa [hmm,hhv]using hB)
            refine⟨_,hrun,.inl ⟨p,m,hp,?_,jb,jb,by cases Nat.beq n 0<;>first|trivial|rfl⟩⟩
            simp only[sliced]
            simp[Addr.add_lit]
       .cases h
    .cases h
   .next ex=>
    rw[ex]at hx;have hx:a.eval x=.slice none 0 0:=hx;split at h
    .next hl hq=>
     have c1:=yJ ht i2 hl;have c2:=yJ ht i3 hq;split at h
     .cases h;have hm0:mx=none:=by
       cases mx with
       |none=>rfl
       |some m=>simp[PI]at i4
      have hB:=Eo (P:=P) (w:=w) (len:=0) (cap:=0) (l:=0) (h:=0) c1 c2 jp jp;rw[hm0]at run;exact⟨_,run _ 0 0 0 0 0 hx hB,rfl⟩
     .next y'=>
      split at h
      .next hm=>
       cases h;cases mx with
       |none=>simp[PI]at i4
       |some mm=>
        have hmm:a.eval mm=.int .i64 ((0:Nat):Int):=by have:=bW i4 ht;rw[sS hm]at this;exact this
        cases hh with
        |none=>simp at i5
        |some hv=>
         have hhv:a.eval hv=.int .i64 ((0:Nat):Int):=by
          rcases c2 with⟨c,_⟩|c
          .cases c
          .simpa using c
         have hB:=CS (P:=P) (w:=w) (len:=0) (cap:=0) (h:=0) (m:=0) (lo:=lo.map a.eval) (c1.imp (·.1) id) jp jp
         exact⟨_,run _ 0 0 0 0 0 hx (by simpa [hmm,hhv]using hB),rfl⟩
      .cases h
    .cases h
   .cases h
  grind
 grind
def PL[hPP:rJ P](hR:Rel N w0 φ J w){op:Op}{ao:xq}(hi:jo P op ao=true)(h:dA ao tm J=some v)(ht:RT φ tm a):YQ P w φ a op v:=by
 cases ao
 case MH=>grind[ax7]
 case pick=>grind[atv]
 case load=>grind[atw]
 case lookup=>grind[ajb]
 case min2=>grind[atx]
 case Ei=>grind[aof]
 case field=>grind[aoh]
 case Ej=>grind[aoi]
 case ext=>grind[ax8]
 case bin=>grind[ax9]
 case eqb=>grind[aya]
 case Hu=>grind[aom]
 case Jg=>grind[aon]
 case nil=>grind[ayc]
 case not=>grind[ayb]
 case conv=>grind[atz]
 case build=>grind[aoo]
 case Tq=>grind[atD]
 case len=>grind[q_len]
 case slice=>grind[aop]
 case Tv=>grind[atA]
 case slen=>exact atB hi h ht
 case Tz=>exact aty hi h ht
 case Pv=>exact aoj hi h ht
 case YF=>exact atC hR hi h ht
 case bad=>simp[dA]at h
 all_goals cases hi
end
end Go.Proofs.Xe
