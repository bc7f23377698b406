/- The bJ: slices of slices, structs built. -/
import Derived.Test.YtjonjhcaniinaaaGreatDoorZ10
import Derived.Laws.StructEq
set_option linter.all false
namespace Go.Proofs.Xe
open Go.RowKit Go.Proofs.Ins
section
variable {P:Program} {N:Nat} {w0 w:World} {φ:Ph} {σ:St} {tm:Tr V} {a:Act} {v:V}
theorem aoS {op:Op} {i:Nat} {y:O} (hi:jh P op (.ext i y)=true) (h:dB (.ext i y) tm σ=some v) (ht:RT φ tm a):YQ P w φ a op v:=by
 simp only [jh] at hi
 simp only [dB,adb] at h
 intro o ho
 split at hi
 ·next x j =>
  rw [Bool.and_eq_true] at hi
  have hx:=bV hi.1 ht
  have hj:=Nat.eq_of_beq_eq_true hi.2
  subst hj
  split at h
  ·next hy =>
   rw [hy] at hx
   cases h
   obtain ⟨u,xs,e,h1,h2⟩:=hx
   exact ⟨u,by simp [execOp,ho,Instr.extract,e],h1⟩
  ·next hy =>
   rw [hy] at hx
   cases h
   obtain ⟨u,xs,e,h1,u2,xs2,e2,h3,h4⟩:=hx
   have e2:xs=u2::xs2:=by simpa using e2
   subst e2
   exact ⟨u2,by simp [execOp,ho,Instr.extract,e],h3⟩
  ·next hy =>
   rw [hy] at hx
   cases h
   obtain ⟨u,xs,e,h1,u2,xs2,e2,h3,u3,xs3,e3,h5,h6⟩:=hx
   have e2:xs=u2::xs2:=by simpa using e2
   have e3:xs2=u3::xs3:=by simpa using e3
   subst e2
   subst e3
   exact ⟨u3,by simp [execOp,ho,Instr.extract,e],h5⟩
  ·cases h
 ·cases hi
theorem Jv {k:IntKind} {n:Int} (h:mkI k n=some v):v = .c (.int k n)∧k.wrap n=n:=by
 unfold mkI at h
 rw [aj8] at h
 cases hr:LP k n with
 | false=>rw [hr] at h;cases h
 | true=>rw [hr] at h;cases h;exact ⟨rfl,Td hr⟩
theorem EC {b:BinOp} {j k:IntKind} {x y:Int} (h:Ws b j x y=some v) (t:TypeId) (X Y:Operand) :
  ∃ cv,((do eqGuard b t X Y (.int j x) (.int k y);binOp b t (.int j x) (.int k y)):Sem Value).run P w = .ok cv w∧RV φ v cv:=by
 cases b <;> simp only [Ws,reduceCtorEq] at h
 case shl =>
  by_cases h0:y<0
  ·rw [decide_eq_true h0] at h;cases h
  ·rw [decide_eq_false h0] at h;cases h;exact ⟨_,by simp [eqGuard_at_int,binOp_shl,Op.shift,h0] <;> rfl,rfl⟩
 case shr =>
  by_cases h0:y<0
  ·rw [decide_eq_true h0] at h;cases h
  ·rw [decide_eq_false h0] at h;cases h;exact ⟨_,by simp [eqGuard_at_int,binOp_shr,Op.shift,h0] <;> rfl,rfl⟩
theorem aaE {b:BinOp} {k:IntKind} {x y:Int} (h:Wu b k x y=some v) (t:TypeId) (X Y:Operand) :
  ∃ cv,((do eqGuard b t X Y (.int k x) (.int k y);binOp b t (.int k x) (.int k y)):Sem Value).run P w = .ok cv w∧RV φ v cv:=by
 cases b <;> simp only [Wu] at h
 case add =>
  split at h
  ·obtain ⟨rfl,e⟩:=Jv h;exact ⟨_,by simp [eqGuard_at_int,binOp_add,Op.intArith] <;> rfl,by rw [e];rfl⟩
  ·simp only [yK] at h;cases h;exact ⟨_,by simp [eqGuard_at_int,binOp_add,Op.intArith] <;> rfl,rfl⟩
 case sub =>
  split at h
  ·obtain ⟨rfl,e⟩:=Jv h;exact ⟨_,by simp [eqGuard_at_int,binOp_sub,Op.intArith] <;> rfl,by rw [e];rfl⟩
  ·simp only [yK] at h;cases h;exact ⟨_,by simp [eqGuard_at_int,binOp_sub,Op.intArith] <;> rfl,rfl⟩
 case mul =>
  split at h
  ·obtain ⟨rfl,e⟩:=Jv h;exact ⟨_,by simp [eqGuard_at_int,binOp_mul,Op.intArith] <;> rfl,by rw [e];rfl⟩
  ·simp only [yK] at h;cases h;exact ⟨_,by simp [eqGuard_at_int,binOp_mul,Op.intArith] <;> rfl,rfl⟩
 case quo =>
  simp only [yK] at h
  by_cases h0:y=0
  ·rw [decide_eq_true h0] at h;cases h
  ·rw [decide_eq_false h0] at h;cases h;exact ⟨_,by simp [eqGuard_at_int,binOp_quo,Op.intDiv,h0] <;> rfl,rfl⟩
 case rem =>
  simp only [yK] at h
  by_cases h0:y=0
  ·rw [decide_eq_true h0] at h;cases h
  ·rw [decide_eq_false h0] at h;cases h;exact ⟨_,by simp [eqGuard_at_int,binOp_rem,Op.intDiv,h0] <;> rfl,rfl⟩
 case and=>simp only [yK] at h;cases h;exact ⟨_,by simp [eqGuard_at_int,binOp_and,Op.intBits] <;> rfl,rfl⟩
 case or=>simp only [yK] at h;cases h;exact ⟨_,by simp [eqGuard_at_int,binOp_or,Op.intBits] <;> rfl,rfl⟩
 case shl=>simp only [yK] at h;exact EC h t X Y
 case shr=>simp only [yK] at h;exact EC h t X Y
 case eql=>cases h;exact ⟨.bool (x == y),by simp [eqGuard_at_int,binOp_eql],by show Value.bool _ = .bool _;congr 1⟩
 case neq=>cases h;exact ⟨.bool (x != y),by simp [eqGuard_at_int,binOp_neq],by show Value.bool _ = .bool _;congr 1⟩
 case lss=>cases h;exact ⟨.bool (x<y),by simp [eqGuard_at_int,binOp_lss],rfl⟩
 case leq=>cases h;exact ⟨.bool (x≤y),by simp [eqGuard_at_int,binOp_leq],rfl⟩
 case gtr=>cases h;exact ⟨.bool (x>y),by simp [eqGuard_at_int,binOp_gtr],rfl⟩
 case geq=>cases h;exact ⟨.bool (x≥y),by simp [eqGuard_at_int,binOp_geq],rfl⟩
 all_goals (simp only [yK,Ws] at h;cases h)
theorem aoT {op:Op} {b:BinOp} {x y:O} (hi:jh P op (.bin b x y)=true) (h:dB (.bin b x y) tm σ=some v) (ht:RT φ tm a):YQ P w φ a op v:=by
 simp only [jh] at hi
 simp only [dB] at h
 intro o ho
 split at hi
 ·next b' t X Y _ =>
  simp only [Bool.and_eq_true,decide_eq_true_eq] at hi
  obtain ⟨⟨⟨rfl,h1⟩,h2⟩,-⟩:=hi
  have hx:=bV h1 ht
  have hy:=bV h2 ht
  unfold qp at h
  split at h
  ·next j p k q ex ey =>
   rw [ex] at hx;rw [ey] at hy
   simp only [RV,RB] at hx hy
   cases hk:decide (j=k) with
   | false =>
    rw [hk] at h
    obtain ⟨cv,e1,e2⟩:=EC (P:=P) (w:=w) (φ:=φ) (k:=k) h t X Y
    refine ⟨cv,?_,e2⟩
    simp only [execOp,ho,hx,hy]
    rw [Sem.run_bind,e1]
    rfl
   | true =>
    rw [hk] at h
    have hk:j=k:=of_decide_eq_true hk
    subst hk
    obtain ⟨cv,e1,e2⟩:=aaE (P:=P) (w:=w) (φ:=φ) h t X Y
    refine ⟨cv,?_,e2⟩
    simp only [execOp,ho,hx,hy]
    rw [Sem.run_bind,e1]
    rfl
  ·next p q ex ey =>
   rw [ex] at hx;rw [ey] at hy
   simp only [RV,RB] at hx hy
   split at h
   ·cases h;exact ⟨_,by simp only [execOp,ho,hx,hy,Sem.run_bind,eqGuard_at_string,Sem.run_pure,Result.andThen_ok,binOp,Op.stringOp,PK],rfl⟩
   ·cases h;exact ⟨_,by simp only [execOp,ho,hx,hy,Sem.run_bind,eqGuard_at_string,Sem.run_pure,Result.andThen_ok,binOp,Op.stringOp,PK],rfl⟩
   ·cases h
  ·next p q ex ey =>
   rw [ex] at hx;rw [ey] at hy
   simp only [RV,RB] at hx hy
   split at h
   ·cases h;exact ⟨_,by simp only [execOp,ho,hx,hy,Sem.run_bind,eqGuard_at_string,Sem.run_pure,Result.andThen_ok,binOp,Op.stringOp,Ju],rfl⟩
   ·cases h;exact ⟨_,by simp only [execOp,ho,hx,hy,Sem.run_bind,eqGuard_at_string,Sem.run_pure,Result.andThen_ok,binOp,Op.stringOp,Ju],rfl⟩
   ·cases h
  ·next p q ex ey =>
   rw [ex] at hx;rw [ey] at hy
   simp only [RV,RB] at hx hy
   cases hz:Nat.beq q.size 0 with
   | false=>rw [hz] at h;cases h
   | true =>
    rw [hz] at h
    have hq:q=bn 0:=by
     have h0:=Nat.eq_of_beq_eq_true hz
     rw [OB]
     obtain ⟨⟨l⟩⟩:=q
     match l,h0 with
     | [],_=>rfl
     | x::l,h0=>simp [ByteArray.size] at h0
    rw [hq] at hy
    simp only [cond_true] at h
    split at h
    ·cases h;exact ⟨_,by simp only [execOp,ho,hx,hy,Sem.run_bind,eqGuard_at_string,Sem.run_pure,Result.andThen_ok,binOp,Op.stringOp,Ju],rfl⟩
    ·cases h;exact ⟨_,by simp only [execOp,ho,hx,hy,Sem.run_bind,eqGuard_at_string,Sem.run_pure,Result.andThen_ok,binOp,Op.stringOp,Ju],rfl⟩
    ·cases h
  ·cases h
 ·cases hi
theorem aoU {op:Op} {p:Bool} {x y:O} (hi:jh P op (.eqb p x y)=true) (h:dB (.eqb p x y) tm σ=some v) (ht:RT φ tm a):YQ P w φ a op v:=by
 simp only [jh] at hi
 simp only [dB,aoK] at h
 intro o ho
 split at hi
 ·next b t X Y _ =>
  simp only [Bool.and_eq_true] at hi
  obtain ⟨⟨⟨h0,h1⟩,h2⟩,h3⟩:=hi
  have hx:=bV h1 ht
  have hy:=bV h2 ht
  split at h3
  ·next hb =>
   split at h
   ·next q r ex ey =>
    rw [ex] at hx;rw [ey] at hy
    simp only [RV,RB] at hx hy
    cases h
    split at h0
    ·rw [h0];exact ⟨.bool (q == r),by simp only [execOp,ho,hx,hy,Sem.run_bind,eqGuard_at_bool,Sem.run_pure,Result.andThen_ok,run_eql_bool w t q r hb],by show Value.bool _ = .bool _;congr 1;cases q <;> cases r <;> rfl⟩
    ·have h0:p=false:=by simpa using h0
     rw [h0];exact ⟨.bool (!(q == r)),by simp only [execOp,ho,hx,hy,Sem.run_bind,eqGuard_at_bool,Sem.run_pure,Result.andThen_ok,run_neq_bool w t q r hb],by show Value.bool _ = .bool _;congr 1;cases q <;> cases r <;> rfl⟩
    ·cases h0
   ·cases h
  ·cases h3
 ·cases hi
theorem aoV {op:Op} {x:O} (hi:jh P op (.not x)=true) (h:dB (.not x) tm σ=some v) (ht:RT φ tm a):YQ P w φ a op v:=by
 simp only [jh] at hi
 simp only [dB,aoM] at h
 intro o ho
 split at hi
 ·have hx:=bV hi ht
  split at h
  ·next b e =>
   rw [e] at hx
   simp only [RV,RB] at hx
   cases h
   exact ⟨.bool (!b),by simp [execOp,ho,hx,Op.unary],rfl⟩
  ·cases h
 ·cases hi
theorem alh {op:Op} {k:IntKind} {x:O} (hi:jh P op (.conv k x)=true) (h:dB (.conv k x) tm σ=some v) (ht:RT φ tm a):YQ P w φ a op v:=by
 simp only [jh] at hi
 simp only [dB,akb] at h
 intro o ho
 split at hi
 ·next src dst X =>
  simp only [Bool.and_eq_true] at hi
  have hx:=bV hi.1.1 ht
  have h2:=hi.2
  obtain ⟨d,hd⟩:=Option.isSome_iff_exists.mp hi.1.2
  split at h2
  ·next j hj =>
   have:=of_decide_eq_true h2
   subst this
   split at h
   ·next k' n e =>
    rw [e] at hx
    simp only [RV,RB] at hx
    cases hr:LP j n with
    | false =>
     rw [hr] at h
     cases h
     refine ⟨.int j (j.wrap n),?_,rfl⟩
     simp [execOp,ho,hx,convert,run_underlying hd,run_underlying hj,Conv.intToInt]
    | true =>
     rw [hr] at h
     cases h
     refine ⟨.int j n,?_,rfl⟩
     simp [execOp,ho,hx,convert,run_underlying hd,run_underlying hj,Conv.intToInt,Td hr]
   ·cases h
  ·cases h2
 ·cases hi
theorem ali {op:Op} {x:O} (hi:jh P op (.L9 x)=true) (h:dB (.L9 x) tm σ=some v) (ht:RT φ tm a):YQ P w φ a op v:=by
 simp only [jh] at hi
 simp only [dB,akd] at h
 intro o ho
 split at hi
 ·have hx:=bV hi ht
  split at h
  ·next b off e =>
   rw [e] at hx
   cases h
   obtain ⟨p,hp,e2⟩:=hx
   exact ⟨_,by simp [execOp,ho,e2],p,hp,rfl⟩
  ·next f l e =>
   rw [e] at hx
   cases h
   obtain ⟨r,e2,hr⟩:=hx
   exact ⟨_,by simp [execOp,ho,e2],r,rfl,hr⟩
  ·cases h
 ·cases hi
theorem q_len {op:Op} {x:O} (hi:jh P op (.len x)=true) (h:dB (.len x) tm σ=some v) (ht:RT φ tm a):YQ P w φ a op v:=by
 simp only [jh] at hi
 simp only [dB,qlen] at h
 intro o ho
 split at hi
 ·next c =>
  split at hi
  ·next hc =>
   split at hi
   ·next X t hX hT =>
    rw [Bool.and_eq_true] at hi
    have hx:=bV hi.1 ht
    have h2:=hi.2
    have hX:c.args = #[X]:=by rw [← Array.toArray_toList (xs:=c.args),hX]
    have hT:c.argTypes = #[t]:=by rw [← Array.toArray_toList (xs:=c.argTypes),hT]
    split at h2
    ·next el hel =>
     have hE:P.underlying t=some (.slice (P.elem t)):=by rw [hel];simp [Program.elem,hel]
     split at h
     ·next b off n cp e =>
      rw [e] at hx
      obtain ⟨p,K,e2⟩ : ∃ p K,a.eval X = .slice (some p) n K:=by
       rcases hx with ⟨p,K,hp,e2,-⟩|⟨hn,-,p,K,e2,-⟩
       ·exact ⟨_,_,e2⟩
       ·subst hn;exact ⟨_,_,e2⟩
      cases h
      exact ⟨.int .i64 n,by simp [execOp,ho,resolve,hc,hX,hT,invoke,builtin,e2,run_len_slice w t _ _ n K hE,goInt],rfl⟩
     ·next e =>
      rw [e] at hx
      simp only [RV,RB] at hx
      cases h
      exact ⟨.int .i64 0,by simp [execOp,ho,resolve,hc,hX,hT,invoke,builtin,hx,run_len_slice w t _ _ 0 0 hE,goInt],rfl⟩
     ·cases h
    ·cases h2
   ·cases hi
  ·cases hi
 ·cases hi
theorem NH (ht:RT φ tm a) : ∀ {cs:List O} {l:List B} {xs:List Operand},aay tm cs=some l→WB xs cs=true→kL φ l (xs.map a.eval)
 | [],l,[],h,_=>by
  simp only [aay,Option.some.injEq] at h
  subst h
  trivial
 | [],_,_::_,_,h=>by cases h
 | _::_,_,[],_,h=>by cases h
 | y::ys,l,x::xs,h,hc=>by
  unfold WB at hc
  rw [Bool.and_eq_true] at hc
  have hx:=bV hc.1 ht
  unfold aay at h
  split at h
  ·next b l' e e2 =>
   cases h
   rw [e] at hx
   exact ⟨hx,NH ht e2 hc.2⟩
  ·cases h
theorem alj {op:Op} {f:Nat} {cs:List O} (hi:jh P op (.Py f cs)=true) (h:dB (.Py f cs) tm σ=some v) (ht:RT φ tm a):YQ P w φ a op v:=by
 simp only [jh] at hi
 simp only [dB,akc] at h
 intro o ho
 split at hi
 ·next f' first caps =>
  simp only [Bool.and_eq_true] at hi
  have hf:=Nat.eq_of_beq_eq_true hi.1.1
  subst hf
  have hfirst:first = #[]:=by
   have:=hi.1.2
   rw [← Array.toArray_toList (xs:=first)]
   cases hl:first.toList with
   | nil=>rfl
   | cons x l=>rw [hl] at this;cases this
  have hcs:=hi.2
  split at h
  ·next l hl =>
   cases h
   refine ⟨_,by simp [execOp,ho,Instr.makeFunc,hfirst];rfl,_,rfl,?_⟩
   rw [Array.toList_map]
   exact NH ht hl hcs
  ·cases h
 ·cases hi
end
section
variable {P:Program} {N:Nat} {w0 w:World} {φ:Ph} {σ:St} {tm:Tr V} {a:Act} {v:V}
theorem alk (d:Nat) {t el:TypeId} (h:P.underlying t=some (.slice el)) (b:Addr) (n k:Nat):(Op.equalIn (d+1) t (.slice (some b) n k) (.slice none 0 0)).run P w = .ok false w:=by
 simp [Op.equalIn,run_underlying h]
theorem ahm (d:Nat) {t el:TypeId} (h:P.underlying t=some (.slice el)):(Op.equalIn (d+1) t (.slice none 0 0) (.slice none 0 0)).run P w = .ok true w:=by
 simp [Op.equalIn,run_underlying h]
theorem ahn (d:Nat) {t el:TypeId} (h:P.underlying t=some (.pointer el)) (b:Addr):(Op.equalIn (d+1) t (.pointer (some b)) (.pointer none)).run P w = .ok false w:=by
 simp [Op.equalIn,run_underlying h]
theorem adp (d:Nat) {t el:TypeId} (h:P.underlying t=some (.pointer el)):(Op.equalIn (d+1) t (.pointer none) (.pointer none)).run P w = .ok true w:=by
 simp [Op.equalIn,run_underlying h]
theorem alm (d:Nat) {t:TypeId} {x y:Array TypeId} {z:Bool} (h:P.underlying t=some (.func x y z)) (f:Fn) (p q:Array Value):(Op.equalIn (d+1) t (.func f p q) .nilFunc).run P w = .ok false w:=by
 simp [Op.equalIn,run_underlying h]
theorem adq (d:Nat) {t:TypeId} {x y:Array TypeId} {z:Bool} (h:P.underlying t=some (.func x y z)):(Op.equalIn (d+1) t .nilFunc .nilFunc).run P w = .ok true w:=by
 simp [Op.equalIn,run_underlying h]
theorem zX {b:BinOp} {t:TypeId} {X:Operand} {c r:Value} {Y:TypeId} {p q:Bool} (h0:(match b with|.eql=>p|.neq=>!p|_=>false)=true) (hr:a.eval X=r)
  (hg:eqGuard b t X (.const c) r c=pure ()) (he:(Op.equal t r c).run P w = .ok q w)
  (hb1:binOp .eql t r c=(do pure (.bool (← Op.equal t r c)))) (hb2:binOp .neq t r c=(do pure (.bool (!(← Op.equal t r c))))) (o:Oper) (ho:o.op = .binOp b t X (.const c) Y) :
  (execOp a.eval o).run P w = .ok (.value (.bool (p == q))) w:=by
 have hc:a.eval (.const c)=c:=rfl
 simp only [execOp,ho,hr,hc,hg]
 split at h0
 ·rw [hb1,h0];simp [he]
 ·have h0:p=false:=by simpa using h0
  rw [hb2,h0];simp [he]
 ·cases h0
theorem aoW {op:Op} {k:Nat} {p:Bool} {x:O} (hi:jh P op (.nil k p x)=true) (h:dB (.nil k p x) tm σ=some v) (ht:RT φ tm a):YQ P w φ a op v:=by
 simp only [jh] at hi
 simp only [dB,aoL] at h
 intro o ho
 split at hi
 ·next b t X Y _ =>
  simp only [Bool.and_eq_true] at hi
  obtain ⟨⟨h0,h1⟩,h3⟩:=hi
  have hx:=bV h1 ht
  split at h3
  ·next el ht' =>
   split at h
   ·next e =>
    rw [e] at hx
    obtain ⟨m,pp,K,e2⟩ : ∃ m pp K,a.eval X = .slice (some pp) m K:=by
     rcases hx with ⟨pp,K,-,e2,-⟩|⟨-,-,pp,K,e2,-⟩
     ·exact ⟨_,_,_,e2⟩
     ·exact ⟨_,_,_,e2⟩
    cases h
    refine ⟨_,zX h0 e2 (eqGuard_at_slice ..) (q:=false) (alk 9999 ht' _ _ _) rfl rfl o ho,?_⟩
    show Value.bool _ = .bool _
    congr 1
    cases p <;> rfl
   ·next e =>
    rw [e] at hx
    have hx:a.eval X = .slice none 0 0:=hx
    cases h
    refine ⟨_,zX h0 hx (eqGuard_at_slice ..) (q:=true) (ahm 9999 ht') rfl rfl o ho,?_⟩
    show Value.bool _ = .bool _
    congr 1
    cases p <;> rfl
   all_goals (first|(exfalso;simp_all;done)|(cases h;done))
  ·next el ht' =>
   split at h
   ·simp_all
   ·simp_all
   ·next e =>
    rw [e] at hx
    obtain ⟨pp,-,e2⟩:=hx
    cases h
    refine ⟨_,zX h0 e2 (eqGuard_at_pointer ..) (q:=false) (ahn 9999 ht' _) rfl rfl o ho,?_⟩
    show Value.bool _ = .bool _
    congr 1
    cases p <;> rfl
   ·next e =>
    rw [e] at hx
    have hx:a.eval X = .pointer none:=hx
    cases h
    refine ⟨_,zX h0 hx (eqGuard_at_pointer ..) (q:=true) (adp 9999 ht') rfl rfl o ho,?_⟩
    show Value.bool _ = .bool _
    congr 1
    cases p <;> rfl
   all_goals (first|(exfalso;simp_all;done)|(cases h;done))
  ·next el ht' =>
   split at h
   ·simp_all
   ·simp_all
   ·simp_all
   ·simp_all
   ·next e =>
    rw [e] at hx
    obtain ⟨r,e2,-⟩:=hx
    cases h
    refine ⟨_,zX h0 e2 (eqGuard_at_func ..) (q:=false) (alm 9999 ht' _ _ _) rfl rfl o ho,?_⟩
    show Value.bool _ = .bool _
    congr 1
    cases p <;> rfl
   ·next e =>
    rw [e] at hx
    have hx:a.eval X = .nilFunc:=hx
    cases h
    refine ⟨_,zX h0 hx (eqGuard_at_nilFunc ..) (q:=true) (adq 9999 ht') rfl rfl o ho,?_⟩
    show Value.bool _ = .bool _
    congr 1
    cases p <;> rfl
   ·cases h
  ·cases h3
 ·cases hi
theorem mg {x:B} {n:Nat} {u:Value} (h:x.num=some n) (hu:RB φ x u):u = .string (bn n):=by
 unfold B.num at h
 split at h
 ·cases h;exact hu
 ·next s =>
  rw [kW] at h
  split at h
  ·next h0 =>
   cases h
   have hu:u = .string s:=hu
   rw [hu,OB]
   congr 1
   obtain ⟨⟨l⟩⟩:=s
   match l,h0 with
   | [],_=>rfl
   | x::l,h0=>simp [ByteArray.size] at h0
  ·cases h
 ·cases h
theorem Tf {x y:B} {r:Bool} {u v:Value} (h:eqS x y=some r) (hu:RB φ x u) (hv:RB φ y v) : ∃ s t,u = .string s∧v = .string t∧(s.toList == t.toList)=r:=by
 unfold eqS at h
 split at h
 ·cases h
  exact ⟨_,_,hu,hv,PK _ _⟩
 ·split at h
  ·next h1 h2 =>
   cases h
   exact ⟨_,_,mg h1 hu,mg h2 hv,Ju _ _⟩
  ·cases h
theorem adr {l r:List B} {b:Bool} {xs ys:Array Value} (h:eqB l r=some b) (hx:kL φ l xs.toList) (hy:kL φ r ys.toList) {t:TypeId} (ht:YJ P t=true) :
  (Op.equalIn 10000 t (.agg xs) (.agg ys)).run P w = .ok b w:=by
 unfold eqB at h
 split at h
 ·next a1 b1 c1 d1 e1 f1 =>
  split at h
  rotate_left
  ·cases h
  next r1 r2 hr1 hr2 =>
  cases h
  unfold YJ at ht
  split at ht
  ·next fs hfs =>
   split at ht
   ·next f g k hl =>
    simp only [Bool.and_eq_true,Bool.not_eq_true'] at ht
    obtain ⟨⟨⟨⟨⟨⟨⟨⟨n1,n2⟩,n3⟩,o1⟩,o2⟩,o3⟩,hty⟩,hs⟩,hg⟩:=ht
    have o1:=Nat.eq_of_beq_eq_true o1
    have o2:=Nat.eq_of_beq_eq_true o2
    have o3:=Nat.eq_of_beq_eq_true o3
    have hF:P.fieldsOf t=fs:=by simp [Program.fieldsOf,hfs]
    obtain ⟨xl⟩:=xs
    obtain ⟨yl⟩:=ys
    match xl,hx with
    | [x1,x2,x3],⟨hx1,hx2,hx3,_⟩ =>
     match yl,hy with
     | [y1,y2,y3],⟨hy1,hy2,hy3,_⟩ =>
      obtain ⟨s2,t2',rfl,rfl,q1⟩:=Tf hr1 hx2 hy2
      obtain ⟨s3,t3',rfl,rfl,q2⟩:=Tf hr2 hx3 hy3
      clear hx2 hx3 hy2 hy3
      simp only [RB] at hx1 hy1
      subst hx1 hy1
      split at hty
      ·next t1 t2 t3 =>
       rw [run_equalIn_struct w 9999 t _ _ (by rw [hF];exact hfs) hs,hF,hl]
       have i1:(isAgg f.type).run P w = .ok false w:=by simp [isAgg,run_underlying t1]
       have i2:(isAgg g.type).run P w = .ok false w:=by simp [isAgg,run_underlying t2]
       have i3:(isAgg k.type).run P w = .ok false w:=by simp [isAgg,run_underlying t3]
       have n1 : f.name ≠ "_" := by simpa using n1
       have n2 : g.name ≠ "_" := by simpa using n2
       have n3 : k.name ≠ "_" := by simpa using n3
       simp only [Op.eqFields,if_pos n1,if_pos n2,if_pos n3,Sem.run_bind,part,i1,i2,i3,Result.andThen_ok,o1,o2,o3,Bool.false_eq_true,if_false,List.getElem?_toArray,List.getElem?_cons_zero,List.getElem?_cons_succ,Sem.run_pure,run_equalIn_bool w 9998 _ _ _ t1,run_equalIn_string w 9998 _ _ _ t2,run_equalIn_string w 9998 _ _ _ t3,q1,q2,Sem.run_ite]
       cases a1 <;> cases d1 <;> cases r1 <;> cases r2 <;> rfl
      ·cases hty
   ·cases ht
  ·cases ht
 ·cases h
theorem ads {l r:List B} {b:Bool} {xs ys:Array Value} (h:eqL l r=some b) (hx:kL φ l xs.toList) (hy:kL φ r ys.toList) {t:TypeId} (ht:Tc P t=true) :
  (Op.equalIn 10000 t (.agg xs) (.agg ys)).run P w = .ok b w:=by
 unfold eqL at h
 split at h
 ·next a1 b1 c1 d1 =>
  cases h
  unfold Tc at ht
  split at ht
  ·next fs hfs =>
   split at ht
   ·next f g hl =>
    simp only [Bool.and_eq_true,Bool.not_eq_true'] at ht
    obtain ⟨⟨⟨⟨⟨⟨n1,n2⟩,o1⟩,o2⟩,hty⟩,hs⟩,hg⟩:=ht
    have o1:=Nat.eq_of_beq_eq_true o1
    have o2:=Nat.eq_of_beq_eq_true o2
    have hF:P.fieldsOf t=fs:=by simp [Program.fieldsOf,hfs]
    obtain ⟨xl⟩:=xs
    obtain ⟨yl⟩:=ys
    match xl,hx with
    | [x1,x2],⟨hx1,hx2,_⟩ =>
     match yl,hy with
     | [y1,y2],⟨hy1,hy2,_⟩ =>
      simp only [RB] at hx1 hy1 hx2 hy2
      subst hx1 hy1 hx2 hy2
      split at hty
      ·next j1 j2 t1 t2 =>
       rw [run_equalIn_struct w 9999 t _ _ (by rw [hF];exact hfs) hs,hF,hl]
       have i1:(isAgg f.type).run P w = .ok false w:=by simp [isAgg,run_underlying t1]
       have i2:(isAgg g.type).run P w = .ok false w:=by simp [isAgg,run_underlying t2]
       have n1 : f.name ≠ "_" := by simpa using n1
       have n2 : g.name ≠ "_" := by simpa using n2
       simp only [Op.eqFields,if_pos n1,if_pos n2,Sem.run_bind,part,i1,i2,Result.andThen_ok,o1,o2,Bool.false_eq_true,if_false,List.getElem?_toArray,List.getElem?_cons_zero,List.getElem?_cons_succ,Sem.run_pure,run_equalIn_int w 9998 _ _ _ _ _ t1,run_equalIn_int w 9998 _ _ _ _ _ t2,Sem.run_ite]
       by_cases e1:a1=c1 <;> by_cases e2:b1=d1 <;> simp [e1,e2]
      ·cases hty
   ·cases ht
  ·cases ht
 ·cases h
theorem aho {op:Op} {p:Bool} {x y:O} (hi:jh P op (.AL p x y)=true) (h:dB (.AL p x y) tm σ=some v) (ht:RT φ tm a):YQ P w φ a op v:=by
 simp only [jh] at hi
 simp only [dB,adf] at h
 intro o ho
 split at hi
 ·next b t X Y _ =>
  simp only [Bool.and_eq_true] at hi
  obtain ⟨⟨⟨h0,h1⟩,h2⟩,h3⟩:=hi
  have hx:=bV h1 ht
  have hy:=bV h2 ht
  split at h
  ·next l r ex ey =>
   rw [ex] at hx;rw [ey] at hy
   obtain ⟨xs,e1,hxs⟩:=hx
   obtain ⟨ys,e2,hys⟩:=hy
   split at h
   ·next q hq =>
    cases h
    have hE:=adr (P:=P) (w:=w) hq hxs hys h3
    have hg:P.eqGuardType P.depth t=false:=by
     unfold YJ at h3
     split at h3
     ·split at h3
      ·simp only [Bool.and_eq_true,Bool.not_eq_true'] at h3;exact h3.2
      ·cases h3
     ·cases h3
    refine ⟨.bool (p == q),?_,rfl⟩
    simp only [execOp,ho,e1,e2,Sem.run_bind,run_eqGuard_agg (P:=P) w b t X Y xs ys hg,Result.andThen_ok]
    split at h0
    ·rw [run_eql_struct,hE,h0];simp
    ·have h0:p=false:=by simpa using h0
     rw [run_neq_struct,hE,h0];simp
    ·cases h0
   ·cases h
  ·cases h
 ·cases hi
theorem ahp {op:Op} {p:Bool} {x y:O} (hi:jh P op (.Dc p x y)=true) (h:dB (.Dc p x y) tm σ=some v) (ht:RT φ tm a):YQ P w φ a op v:=by
 simp only [jh] at hi
 simp only [dB,ade] at h
 intro o ho
 split at hi
 ·next b t X Y _ =>
  simp only [Bool.and_eq_true] at hi
  obtain ⟨⟨⟨h0,h1⟩,h2⟩,h3⟩:=hi
  have hx:=bV h1 ht
  have hy:=bV h2 ht
  split at h
  ·next l r ex ey =>
   rw [ex] at hx;rw [ey] at hy
   obtain ⟨xs,e1,hxs⟩:=hx
   obtain ⟨ys,e2,hys⟩:=hy
   split at h
   ·next q hq =>
    cases h
    have hE:=ads (P:=P) (w:=w) hq hxs hys h3
    have hg:P.eqGuardType P.depth t=false:=by
     unfold Tc at h3
     split at h3
     ·split at h3
      ·simp only [Bool.and_eq_true,Bool.not_eq_true'] at h3;exact h3.2
      ·cases h3
     ·cases h3
    refine ⟨.bool (p == q),?_,rfl⟩
    simp only [execOp,ho,e1,e2,Sem.run_bind,run_eqGuard_agg (P:=P) w b t X Y xs ys hg,Result.andThen_ok]
    split at h0
    ·rw [run_eql_struct,hE,h0];simp
    ·have h0:p=false:=by simpa using h0
     rw [run_neq_struct,hE,h0];simp
    ·cases h0
   ·cases h
  ·cases h
 ·cases hi
end
section
variable {P:Program} {N:Nat} {w0 w:World} {φ:Ph} {σ:St} {tm:Tr V} {a:Act} {v:V}
theorem foldl_set (o:Nat) : ∀ (l:List Value) (i:Nat) (cs:Array Value),o+i+l.length≤cs.size →
  ((l.zipIdx i).foldl (fun (cs:Array Value) (x:Value×Nat)=>cs.setIfInBounds (o+x.2) x.1) cs).toList=cs.toList.take (o+i) ++ l ++ cs.toList.drop (o+i+l.length)
 | [],i,cs,h=>by simp
 | x::l,i,cs,h=>by
  rw [List.zipIdx_cons,List.foldl_cons]
  simp only [List.length_cons] at h
  have hi:o+i<cs.toList.length:=by rw [Array.length_toList];omega
  rw [foldl_set o l (i+1) _ (by simp;omega)]
  simp only [Array.toList_setIfInBounds,List.length_cons]
  rw [show o+(i+1)=o+i+1 by omega,List.take_set,List.take_add_one,List.drop_set]
  rw [if_pos (by omega)]
  have h1:(cs.toList.take (o+i)).length=o+i:=by rw [List.length_take];omega
  rw [List.getElem?_eq_getElem hi]
  simp only [Option.toList_some]
  rw [List.set_append_right _ _ (by omega),h1]
  simp only [Nat.sub_self,List.set_cons_zero,List.append_assoc,List.cons_append,List.nil_append]
  rw [show o+i+1+l.length=o+i+(l.length+1) by omega]
theorem EF (ht:RT φ tm a) (pl:Nat→Option (Nat×Nat)) : ∀ (ps:List (Nat×Operand)) (qs:List (Nat×Nat×O)) (z l:List B) (cs:Array Value),Dl pl ps qs=true →
  uU z (qs.map fun p=>(p.1,p.2.1,p.2.2.ev tm))=some l→kL φ z cs.toList→∃ r,Instr.fill pl cs (ps.map fun x=>(x.1,a.eval x.2))=some r∧kL φ l r.toList∧r.size=cs.size
 | [],[],z,l,cs,_,h,hz=>by
  simp only [List.map_nil,uU,Option.some.injEq] at h
  subst h
  exact ⟨cs,rfl,hz,rfl⟩
 | [],_::_,_,_,_,h,_,_=>by cases h
 | _::_,[],_,_,_,h,_,_=>by cases h
 | (i,x)::ps,(o,n,y)::qs,z,l,cs,hp,h,hz=>by
  unfold Dl at hp
  simp only [Bool.and_eq_true] at hp
  obtain ⟨⟨hp1,hp2⟩,hp3⟩:=hp
  have hx:=bV hp2 ht
  simp only [List.map_cons,uU] at h
  split at hp1
  ·next p q hpl =>
   rw [Bool.and_eq_true] at hp1
   have e1:=Nat.eq_of_beq_eq_true hp1.1
   have e2:=Nat.eq_of_beq_eq_true hp1.2
   subst e1 e2
   split at h
   ·next lc hlc =>
    have hc:=hx.cells hlc
    cases hb:Nat.beq lc.length q with
    | false=>rw [hb] at h;cases h
    | true =>
     rw [hb] at h
     have hb:=Nat.eq_of_beq_eq_true hb
     simp only [cond_true] at h
     split at h
     ·next z' hz' =>
      obtain ⟨h1,h2⟩:=PG p z lc z' _ _ hz' hz hc
      have hsz:(a.eval x).cells.size=q:=by rw [← hb,hc.length,Array.length_toList]
      have hcs:z.length=cs.size:=by rw [hz.length,Array.length_toList]
      have hfold:((a.eval x).cells.zipIdx.foldl (fun cs x=>cs.setIfInBounds (p+x.2) x.1) cs).toList=cs.toList.take p ++ (a.eval x).cells.toList ++ cs.toList.drop (p+(a.eval x).cells.toList.length):=by
       rw [← Array.foldl_toList,Array.toList_zipIdx]
       have:=foldl_set p (a.eval x).cells.toList 0 cs (by rw [Array.length_toList];omega)
       simpa using this
      have hsz2:((a.eval x).cells.zipIdx.foldl (fun cs x=>cs.setIfInBounds (p+x.2) x.1) cs).size=cs.size:=by
       rw [← Array.length_toList,hfold]
       simp only [List.length_append,List.length_take,List.length_drop,Array.length_toList]
       omega
      obtain ⟨r,hr1,hr2,hr3⟩:=EF ht pl ps qs z' l _ hp3 h (by rw [hfold];exact h2)
      refine ⟨r,?_,hr2,by rw [hr3,hsz2]⟩
      simp only [List.map_cons,Instr.fill,hpl]
      rw [if_neg (by simp only [hsz,Bool.or_eq_true,decide_eq_true_eq];simp;omega)]
      exact hr1
     ·cases h
   ·cases h
  ·cases hp1
theorem AP : ∀ (fs:List Field) (l:List (Nat×Nat)) (w:World),placesOf P fs=some l→(fs.mapM fun f=>(do pure (f.offset,← sizeOf f.type):Sem (Nat×Nat))).run P w = .ok l w
 | [],l,w,h=>by
  simp only [placesOf,Option.some.injEq] at h
  subst h
  simp
 | f::fs,l,w,h=>by
  unfold placesOf at h
  split at h
  ·next i l' hi hl' =>
   cases h
   simp [sizeOf,typeInfo,hi]
   have:=AP fs l' w hl'
   simp only [sizeOf,typeInfo] at this
   simp at this
   rw [this]
   rfl
  ·cases h
theorem ahq {op:Op} {z:List B} {ps:List (Nat×Nat×O)} (hi:jh P op (.build z ps)=true) (h:dB (.build z ps) tm σ=some v) (ht:RT φ tm a):YQ P w φ a op v:=by
 simp only [jh] at hi
 simp only [dB,adg] at h
 intro o ho
 split at hi
 ·next t parts =>
  rw [Bool.and_eq_true] at hi
  obtain ⟨h1,h2⟩:=hi
  split at h1
  ·next i ado =>
   split at h1
   ·next zv hzv =>
    split at h2
    ·next fs hfs =>
     split at h2
     ·next pl hpl =>
      split at h
      ·next l hl =>
       cases h
       obtain ⟨r,e1,e2,-⟩:=EF ht _ _ _ z l zv.cells h2 hl (Hr h1)
       refine ⟨.agg r,?_,r,rfl,e2⟩
       have hm:(fs.mapM fun f=>(do pure (f.offset,← sizeOf f.type):Sem (Nat×Nat))).run P w = .ok pl.toArray w:=by
        rw [Array.mapM_eq_mapM_toList,Sem.run_map,AP _ _ w hpl]
        rfl
       simp only [execOp,ho,Instr.build,zeroValue,typeInfo,Sem.run_bind,run_program,Result.andThen_ok,ado,Sem.run_pure,hzv,run_underlying hfs,hm]
       have e3:Instr.fill (fun x=>pl.toArray[x]?) zv.cells (parts.map fun (x:Nat×Operand)=>(x.1,a.eval x.2)).toList=some r:=by
        rw [Array.toList_map,← e1]
        congr 1
        funext x
        simp
       simp only [e3,Sem.run_pure,Result.andThen_ok]
      ·cases h
     ·cases h2
    ·cases h2
   ·cases h1
  ·cases h1
 ·cases hi
theorem sJ (ht:RT φ tm a) {x:Option Operand} {y:Option O} {d l:Nat} (h:Jt x y=true) (hc:SX y tm d=some l) :
  (x.map a.eval=none∧l=d)∨x.map a.eval=some (.int .i64 (l:Int)):=by
 unfold Jt at h
 split at h
 ·simp only [SX,Option.some.injEq] at hc
  exact .inl ⟨rfl,hc.symm⟩
 ·next x y =>
  simp only [SX] at hc
  have:=bV h ht
  rw [sV hc] at this
  simp only [RV,RB] at this
  exact .inr (by simp [this])
 ·cases h
theorem yM {len cap l h:Nat} {lo hi:Option Value} (h1:(lo=none∧l=0)∨lo=some (.int .i64 (l:Int))) (h2:(hi=none∧h=len)∨hi=some (.int .i64 (h:Int))) (hlh:l≤h) (hc:h≤cap) :
  (Instr.sliceBounds true len cap lo hi none).run P w = .ok (l,h,cap) w:=by
 have e1:(l:Int)≤(h:Int):=jb
 have e2:(h:Int)≤(cap:Int):=jb
 have e3:(0:Int)≤(h:Int):=jb
 rcases h1 with ⟨rfl,rfl⟩|rfl <;> rcases h2 with ⟨rfl,rfl⟩|rfl <;>
  simp [Instr.sliceBounds,run_sliceBound,hlh,hc,e1,e2,e3]
theorem xE {len cap h m:Nat} {lo:Option Value} (h1:lo=none∨lo=some (.int .i64 (0:Int))) (hm:h≤m) (hc:m≤cap) :
  (Instr.sliceBounds true len cap lo (some (.int .i64 (h:Int))) (some (.int .i64 (m:Int)))).run P w = .ok (0,h,m) w:=by
 rcases h1 with rfl|rfl <;>
  simp [Instr.sliceBounds,run_sliceBound,(by omega:(h:Int)≤(m:Int)),(by omega:(m:Int)≤(cap:Int))]
theorem ahr {op:Op} {e:Nat} {y:O} {lo' hi' mx' : Option O} (hi:jh P op (.slice e y lo' hi' mx')=true) (h:dB (.slice e y lo' hi' mx') tm σ=some v) (ht:RT φ tm a):YQ P w φ a op v:=by
 simp only [jh] at hi
 simp only [dB,Jp] at h
 intro o ho
 split at hi
 ·next t x lo hh mx =>
  simp only [Bool.and_eq_true] at hi
  obtain ⟨⟨⟨⟨⟨i1,i2⟩,i3⟩,i4⟩,i5⟩,i6⟩:=hi
  split at i6
  ·next el hel =>
   have hs:=wF i6
   have hE:P.elem t=el:=by simp [Program.elem,hel]
   have hE' : P.underlying t=some (.slice (P.elem t)):=by rw [hE];exact hel
   have hx:=bV i1 ht
   have run : ∀ (A:Option Addr) (n K l h m:Nat),a.eval x = .slice A n K→(Instr.sliceBounds true n K (lo.map a.eval) (hh.map a.eval) (mx.map a.eval)).run P w = .ok (l,h,m) w →
     (execOp a.eval o).run P w = .ok (.value (sliced A l h m e)) w:=fun A n K l h m hA hB=>by
    simp only [execOp,ho,Sem.run_bind,hA]
    rw [run_sliceAt_slice w t _ _ _ _ hE',run_slice_any w t A n K hE',hB]
    simp [hE,hs]
   split at h
   ·next b off n c ex =>
    rw [ex] at hx
    rcases hx with ⟨p,K,hp,e2,hnK,hKM,hcap⟩|⟨rfl,rfl,A,K,e2,hKM⟩
    rotate_left
    ·split at h
     ·next l q hl hq =>
      cases hb:(Nat.ble l q && Nat.ble q 0) with
      | false=>rw [hb] at h;cases h
      | true =>
       rw [hb] at h
       rw [Bool.and_eq_true] at hb
       have b1:=Nat.le_of_ble_eq_true hb.1
       have b2:=Nat.le_of_ble_eq_true hb.2
       have q0:q=0:=jb
       have l0:l=0:=jb
       subst q0 l0
       have c1:=sJ ht i2 hl
       have c2:=sJ ht i3 hq
       simp only [cond_true] at h
       split at h
       ·cases h
        have hm0:mx=none:=by
         cases mx with
         | none=>rfl
         | some m=>simp [Jt] at i4
        have hB:=yM (P:=P) (w:=w) (len:=0) (cap:=K) c1 c2 jp (Nat.zero_le _)
        rw [hm0] at run
        have hrun:=run _ 0 K 0 0 K e2 hB
        refine ⟨_,hrun,.inr ?_⟩
        simp only [sliced]
        by_cases hKl:K=0
        ·rw [if_pos hKl];exact ⟨trivial,trivial,_,_,rfl,jb⟩
        ·rw [if_neg hKl];exact ⟨trivial,trivial,_,_,rfl,jb⟩
       ·next y' =>
        split at h
        ·next m hm =>
         cases hk:(Nat.ble 0 m && Nat.ble m 0) with
         | false=>rw [hk] at h;cases h
         | true =>
          rw [hk] at h
          cases h
          rw [Bool.and_eq_true] at hk
          have m0:m=0:=by have:=Nat.le_of_ble_eq_true hk.2;omega
          subst m0
          cases mx with
          | none=>simp [Jt] at i4
          | some mm =>
           have hmm:a.eval mm = .int .i64 ((0:Nat):Int):=by
            have:=bV i4 ht
            rw [sV hm] at this
            exact this
           cases hh with
           | none=>simp at i5
           | some hv =>
            have hhv:a.eval hv = .int .i64 ((0:Nat):Int):=by
             rcases c2 with ⟨c,_⟩|c
             ·cases c
             ·simpa using c
            have hB:=xE (P:=P) (w:=w) (len:=0) (cap:=K) (h:=0) (m:=0) (lo:=lo.map a.eval) (c1.imp (·.1) id) jp (Nat.zero_le _)
            have hrun:=run _ 0 K 0 0 0 e2 (by simpa [hmm,hhv] using hB)
            refine ⟨_,hrun,.inr ⟨rfl,rfl,A,0,?_,jb⟩⟩
            simp [sliced]
        ·cases h
     ·cases h
    split at h
    ·next l q hl hq =>
     cases hb:(Nat.ble l q && Nat.ble q n) with
     | false=>rw [hb] at h;cases h
     | true =>
      rw [hb] at h
      rw [Bool.and_eq_true] at hb
      have b1:=Nat.le_of_ble_eq_true hb.1
      have b2:=Nat.le_of_ble_eq_true hb.2
      have c1:=sJ ht i2 hl
      have c2:=sJ ht i3 hq
      simp only [cond_true] at h
      split at h
      ·have hm0:mx=none:=by
        cases mx with
        | none=>rfl
        | some m=>simp [Jt] at i4
       have hB:=yM (P:=P) (w:=w) (len:=n) (cap:=K) c1 c2 b1 jb
       rw [hm0] at run
       have hrun:=run _ n K l q K e2 hB
       split at h
       ·next k =>
        cases hk:Nat.blt l k with
        | false =>
         rw [hk] at h
         simp only [cond_false] at h
         cases h
         have hge:k≤l:=by
          by_cases hh:l<k
          ·exact absurd (Nat.ble_eq_true_of_le hh) (by rw [show Nat.ble (l+1) k=Nat.blt l k from rfl,hk];decide)
          ·omega
         simp only [adi] at hcap
         have hql:q - l=0:=jb
         refine ⟨_,hrun,.inr ?_⟩
         simp only [sliced,hql]
         by_cases hKl:K=l
         ·rw [if_pos hKl];exact ⟨trivial,trivial,_,_,rfl,jb⟩
         ·rw [if_neg hKl];exact ⟨trivial,trivial,_,_,rfl,jb⟩
        | true =>
         rw [hk] at h
         simp only [cond_true,iY] at h
         cases h
         have hk:l<k:=Nat.le_of_ble_eq_true hk
         simp only [adi] at hcap
         subst hcap
         refine ⟨_,hrun,.inl ⟨p,K - l,hp,?_,jb,jb,rfl⟩⟩
         simp only [sliced]
         rw [if_neg jb]
         simp [Addr.add_lit]
       ·cases hk:Nat.beq l 0 with
        | true =>
         rw [hk] at h
         cases h
         have hk:=Nat.eq_of_beq_eq_true hk
         subst hk
         refine ⟨_,hrun,.inl ⟨p,K,hp,?_,jb,jb,hcap⟩⟩
         simp only [sliced]
         simp [Addr.add_lit]
        | false =>
         rw [hk] at h
         simp only [cond_false] at h
         cases hk2:Nat.blt l n with
         | false =>
          rw [hk2] at h
          simp only [cond_false] at h
          cases h
          have hge:n≤l:=by
           by_cases hh:l<n
           ·exact absurd (Nat.ble_eq_true_of_le hh) (by rw [show Nat.ble (l+1) n=Nat.blt l n from rfl,hk2];decide)
           ·omega
          have hql:q - l=0:=jb
          refine ⟨_,hrun,.inr ?_⟩
          simp only [sliced,hql]
          by_cases hKl:K=l
          ·rw [if_pos hKl];exact ⟨trivial,trivial,_,_,rfl,jb⟩
          ·rw [if_neg hKl];exact ⟨trivial,trivial,_,_,rfl,jb⟩
         | true =>
          rw [hk2] at h
          simp only [cond_true,iY] at h
          cases h
          have hk2:l<n:=Nat.le_of_ble_eq_true hk2
          refine ⟨_,hrun,.inl ⟨p,K - l,hp,?_,jb,jb,trivial⟩⟩
          simp only [sliced]
          rw [if_neg jb]
          simp [Addr.add_lit]
       ·cases hk2:Nat.blt l n with
        | false =>
         rw [hk2] at h
         simp only [cond_false] at h
         cases h
         have hge:n≤l:=by
          by_cases hh:l<n
          ·exact absurd (Nat.ble_eq_true_of_le hh) (by rw [show Nat.ble (l+1) n=Nat.blt l n from rfl,hk2];decide)
          ·omega
         have hql:q - l=0:=jb
         refine ⟨_,hrun,.inr ?_⟩
         simp only [sliced,hql]
         by_cases hKl:K=l
         ·rw [if_pos hKl];exact ⟨trivial,trivial,_,_,rfl,jb⟩
         ·rw [if_neg hKl];exact ⟨trivial,trivial,_,_,rfl,jb⟩
        | true =>
         rw [hk2] at h
         simp only [cond_true,iY] at h
         cases h
         have hk2:l<n:=Nat.le_of_ble_eq_true hk2
         refine ⟨_,hrun,.inl ⟨p,K - l,hp,?_,jb,jb,trivial⟩⟩
         simp only [sliced]
         rw [if_neg jb]
         simp [Addr.add_lit]
      ·next y' =>
       split at h
       ·next m hm =>
        cases hk:(Nat.ble q m && Nat.ble m n) with
        | false=>rw [hk] at h;cases h
        | true =>
         rw [hk] at h
         simp only [cond_true] at h
         cases hk0:Nat.beq l 0 with
         | false=>rw [hk0] at h;cases h
         | true =>
          rw [hk0] at h
          cases h
          have hk0:=Nat.eq_of_beq_eq_true hk0
          subst hk0
          rw [Bool.and_eq_true] at hk
          have k1:=Nat.le_of_ble_eq_true hk.1
          have k2:=Nat.le_of_ble_eq_true hk.2
          cases mx with
          | none=>simp [Jt] at i4
          | some mm =>
           have hmm:a.eval mm = .int .i64 (m:Int):=by
            have:=bV i4 ht
            rw [sV hm] at this
            exact this
           cases hh with
           | none=>simp at i5
           | some hv =>
            have hhv:a.eval hv = .int .i64 (q:Int):=by
             rcases c2 with ⟨c,_⟩|c
             ·cases c
             ·simpa using c
            have hB:=xE (P:=P) (w:=w) (len:=n) (cap:=K) (h:=q) (m:=m) (lo:=lo.map a.eval) (c1.imp (·.1) id) k1 jb
            have hrun:=run _ n K 0 q m e2 (by simpa [hmm,hhv] using hB)
            refine ⟨_,hrun,.inl ⟨p,m,hp,?_,jb,jb,by cases Nat.beq n 0 <;> first|trivial|rfl⟩⟩
            simp only [sliced]
            simp [Addr.add_lit]
       ·cases h
    ·cases h
   ·next ex =>
    rw [ex] at hx
    have hx:a.eval x = .slice none 0 0:=hx
    split at h
    ·next hl hq =>
     have c1:=sJ ht i2 hl
     have c2:=sJ ht i3 hq
     split at h
     ·cases h
      have hm0:mx=none:=by
       cases mx with
       | none=>rfl
       | some m=>simp [Jt] at i4
      have hB:=yM (P:=P) (w:=w) (len:=0) (cap:=0) (l:=0) (h:=0) c1 c2 jp jp
      rw [hm0] at run
      exact ⟨_,run _ 0 0 0 0 0 hx hB,rfl⟩
     ·next y' =>
      split at h
      ·next hm =>
       cases h
       cases mx with
       | none=>simp [Jt] at i4
       | some mm =>
        have hmm:a.eval mm = .int .i64 ((0:Nat):Int):=by
         have:=bV i4 ht
         rw [sV hm] at this
         exact this
        cases hh with
        | none=>simp at i5
        | some hv =>
         have hhv:a.eval hv = .int .i64 ((0:Nat):Int):=by
          rcases c2 with ⟨c,_⟩|c
          ·cases c
          ·simpa using c
         have hB:=xE (P:=P) (w:=w) (len:=0) (cap:=0) (h:=0) (m:=0) (lo:=lo.map a.eval) (c1.imp (·.1) id) jp jp
         exact ⟨_,run _ 0 0 0 0 0 hx (by simpa [hmm,hhv] using hB),rfl⟩
      ·cases h
    ·cases h
   ·cases h
  ·cases i6
 ·cases hi
theorem Jw [WC:mW P] (hR:Rel N w0 φ σ w) {op:Op} {ao:qL} (hi:jh P op ao=true) (h:dB ao tm σ=some v) (ht:RT φ tm a):YQ P w φ a op v:=by
 cases ao
 case mov=>exact aoR hi h ht
 case pick=>exact ale hi h ht
 case load=>exact alf hR hi h ht
 case lookup=>exact adl hR hi h ht
 case min2=>exact alg hi h ht
 case yJ=>exact ahj hi h ht
 case field=>exact ahk hi h ht
 case AB=>exact ahl hi h ht
 case ext=>exact aoS hi h ht
 case bin=>exact aoT hi h ht
 case eqb=>exact aoU hi h ht
 case AL=>exact aho hi h ht
 case Dc=>exact ahp hi h ht
 case nil=>exact aoW hi h ht
 case not=>exact aoV hi h ht
 case conv=>exact alh hi h ht
 case build=>exact ahq hi h ht
 case Py=>exact alj hi h ht
 case len=>exact q_len hi h ht
 case slice=>exact ahr hi h ht
 case L9=>exact ali hi h ht
 case bad=>simp [dB] at h
 all_goals cases hi
end
end Go.Proofs.Xe
