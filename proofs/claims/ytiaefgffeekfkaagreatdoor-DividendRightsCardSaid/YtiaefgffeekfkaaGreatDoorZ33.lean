/- insolvencylaw0.agree, in the executor's words. -/
import Derived.Test.YtiaefgffeekfkaaGreatDoorZ32
set_option linter.unusedSimpArgs false
set_option linter.unusedVariables false
set_option maxHeartbeats 8000000
namespace Go.Proofs.Xe
open Go.RowKit Go.Proofs.Ins
def GoodP (nc:Nat) (al:List Agr) (x:Prt):Prop:=((x.k = -1∧x.b=true)∨∃ i:Nat,i<nc∧x.k=(i:Int)∧FreeA al x.k)∧∃ w:Nat,w≤16∧x.a=ofQ ((Int.ofNat w:Int):Rat)
def GoodT (nc:Nat) (al:List Agr) (t:List Prt):Prop:=∀ k,k<t.length→GoodP nc al (ix t k)
theorem GoodT.snoc {nc:Nat} {al:List Agr} {t:List Prt} {x:Prt} (h:GoodT nc al t) (hx:GoodP nc al x):GoodT nc al (t ++ [x]):=fun k hk=>by
 rw [List.length_append,List.length_singleton] at hk
 by_cases e:k=t.length
 ·rw [e,ix_snoc_eq]; exact hx
 ·rw [ix_snoc_lt _ _ (by omega)]; exact h k (by omega)
theorem x_lWholeN {E:Env} [HasO E] {σ:St} {K:V→St→Prop} (w:Nat) (h:w≤9223372036854775807):CallX E 31 [.c (.int .i64 (.ofNat w))] σ K=K (.agg [.bool (rn ((Int.ofNat w:Int):Rat)),.str (rs ((Int.ofNat w:Int):Rat)),.str (rd ((Int.ofNat w:Int):Rat))]) σ:=x_lWhole _ (by simp only [Int.ofNat_eq_natCast]; omega) (by simp only [Int.ofNat_eq_natCast]; omega)
attribute [go_sem] x_lWholeN
structure TI (σ σ' : St) (tb i nc:Nat) (al:List Agr) (ts:Nat→List Prt) (bs:Nat→Nat):Prop where
 b:σ'.h tb=some ⟨ones 3 (fun t=>famV (ts t) (bs t)),none⟩
 f:FamL σ'.h 3 prtB 5 84 ts bs (tb+1) σ'.nxt
 g : ∀ t,t<3→GoodT nc al (ts t)
 l : ∀ t,t<3→(ts t).length≤i
 n:tb+1≤σ'.nxt
 fr:Fr σ σ'
theorem famV_snoc (ts:Nat→List Prt) (bs:Nat→Nat) (t nx:Nat) (x:Prt):(fun j=>famV (updF ts t (ts t ++ [x]) j) (updF bs t nx j))=updF (fun j=>famV (ts j) (bs j)) t (.sl nx 0 ((ts t).length+1) .opn):=by
 funext j
 unfold updF
 split
 ·next e=>rw [famV_pos (by simp),List.length_append]; rfl
 ·rfl
theorem prt_len (l:List Prt):l.length*5≤(celR l.length (fun k=>prtB (ix l k))).length:=by rw [cel_len (e:=5) fun _=>rfl]; exact Nat.le_refl _
theorem prt_take (l:List Prt):(celR l.length (fun k=>prtB (ix l k))).take (l.length*5)=celR l.length (fun k=>prtB (ix l k)):=cel_take fun _=>rfl
section
variable {σ σ' : St} {tb i nc:Nat} {al:List Agr} {ts:Nat→List Prt} {bs:Nat→Nat}
theorem TI.step (hT:TI σ σ' tb i nc al ts bs) {σ3:St} (hf:Fr σ' σ3):TI σ σ3 tb (i+1) nc al ts bs:=by
 have hn:=hT.n
 have hle:=hf.le
 exact ⟨by rw [hf.old _ (by omega)]; exact hT.b,hT.f.mono (fun b _ hb=>hf.old b hb) hle,hT.g,fun t ht=>by have:=hT.l t ht; omega,by omega,hT.fr.trans hf⟩
theorem TI.push (hT:TI σ σ' tb i nc al ts bs) {t nx n' : Nat} {x:Prt} {h' : Tr Bk} (ht:t<3) (hg:GoodP nc al x) (hb:h' tb=some ⟨ones 3 (updF (fun j=>famV (ts j) (bs j)) t (.sl nx 0 ((ts t).length+1) .opn)),none⟩)
  (hx:h' nx=some ⟨celR (ts t).length (fun k=>prtB (ix (ts t) k)) ++ prtB x,some (5,84)⟩) (ho : ∀ b,tb+1≤b→b<σ'.nxt→(0<(ts t).length→b≠bs t)→h' b=σ'.h b) (hn:σ'.nxt≤nx) (hn' : nx<n') (hf:Fr σ ⟨h',n'⟩) :
  TI σ ⟨h',n'⟩ tb (i+1) nc al (updF ts t (ts t ++ [x])) (updF bs t nx):=by
 have hn0:=hT.n
 refine ⟨?_,?_,fun j hj=>?_,fun j hj=>?_,by show tb+1≤n'; omega,hf⟩
 ·rw [famV_snoc]; exact hb
 ·refine hT.f.push ht x rfl hx (fun j hj e hp=>?_) (by omega) hn hn'
  obtain ⟨-,k2,k3⟩:=hT.f.blk j hj hp
  exact ho _ k2 k3 fun hp2 e2=>e (hT.f.inj j t hj ht hp hp2 e2)
 ·unfold updF
  split
  ·next e=>exact (hT.g t ht).snoc hg
  ·exact hT.g j hj
 ·unfold updF
  split
  ·next e=>rw [List.length_append,List.length_singleton]; have:=hT.l t ht; omega
  ·have:=hT.l j hj; omega
end
theorem HLp.plt {σ:St} (hW:WF σ) {p:Nat→Prop} {e n:Nat} {v:B} {G:Nat→List B} (hl:HLp p σ.h e v n G):HLp (fun b=>p b∧b<σ.nxt) σ.h e v n G:=by
 rcases hl with h | ⟨b,o,c,h1,h2,h3⟩
 ·exact .inl h
 ·exact .inr ⟨b,o,c,h1,fun h=>⟨h2 h,hW.ld_lt (h3 0 h)⟩,h3⟩
theorem HTiers.plt {σ:St} (hW:WF σ) {p:Nat→Prop} {v:B} {l:Agr} (hl:HTiers p σ.h v l):HTiers (fun b=>p b∧b<σ.nxt) σ.h v l:=by
 obtain ⟨T,k1,k2⟩:=hl
 exact ⟨T,k1.plt hW,fun j hj=>(k2 j hj).plt hW⟩
theorem agree_end {σ σ' : St} {tb i nc:Nat} {al:List Agr} {ts:Nat→List Prt} {bs:Nat→Nat} (hW:WF σ) {p:Nat→Prop} {T:Nat→B} (hT2 : ∀ j,j<al.length→HTiers p σ.h (T j) (ix al j)) (hTk : ∀ j,j<al.length→(T j).kn=true) (hT:TI σ σ' tb i nc al ts bs) (hi:i≤nc+1) (htb:σ.nxt≤tb)
  {h' : Tr Bk} {n' rb:Nat} (hr:h' rb=some ⟨celR (al.length+1) (fun j=>[if j<al.length then T j else .sl tb 0 3 (.ex 3)]),some (1,82)⟩) (ho : ∀ b,b<σ'.nxt→h' b=σ'.h b) (hrb:σ'.nxt≤rb) (hn:rb<n') (hf:Fr σ ⟨h',n'⟩) :
  (∃ rv a,V.c (.sl rb 0 (al.length+1) .opn) = .c rv∧HAgrs (fun b=>p b∨σ.nxt≤b∧b<n') h' rv (al ++ [a])∧a.length=3∧∀ t,t<3→GoodT nc al (ix a t)∧(ix a t).length≤nc+1)∧Fr σ ⟨h',n'⟩:=by
 have hle:=hT.fr.le
 have hn1:=hT.n
 have h3 : ∀ t,t<3→ix [ts 0,ts 1,ts 2] t=ts t:=fun t ht=>by
  match t,ht with
  | 0,_=>rfl
  | 1,_=>rfl
  | 2,_=>rfl
 refine ⟨⟨_,[ts 0,ts 1,ts 2],rfl,⟨fun j=>if j<al.length then T j else .sl tb 0 3 (.ex 3),?_,fun j hj=>?_⟩,rfl,fun t ht=>?_⟩,hf⟩
 ·have:(al ++ [[ts 0,ts 1,ts 2]]).length=al.length+1:=by simp
  rw [this]
  exact cel_hlp _ hr rfl (.inr ⟨by omega,hn⟩) (fun _=>rfl) (by decide) fun j hj=>by
   dsimp only
   split
   ·next e=>simp only [List.all_cons,List.all_nil,hTk j e,Bool.and_self]
   ·rfl
 ·have hj' : j<al.length+1:=by simpa using hj
  dsimp only
  by_cases e:j<al.length
  ·rw [if_pos e,ix_snoc_lt _ _ e]
   refine ((hT2 j e).plt hW).keep (fun b hb=>?_) fun b hb=>.inl hb.1
   rw [ho b (by omega),hT.fr.old b hb.2]
  ·rw [if_neg e]
   obtain rfl:j=al.length:=by omega
   rw [ix_snoc_eq]
   refine ⟨fun t=>famV (ts t) (bs t),?_,fun t ht=>?_⟩
   ·have hb:h' tb=some ⟨celR 3 (fun t=>[famV (ts t) (bs t)]),none⟩:=by rw [ho tb (by omega)]; exact hT.b
    exact cel_hlp _ hb rfl (.inr ⟨htb,by omega⟩) (fun _=>rfl) (by decide) fun j _=>by simp only [List.all_cons,List.all_nil,famV_kn,Bool.and_self]
   ·have ht:t<3:=ht
    rw [h3 t ht]
    exact (hT.f.hlp (p:=fun b=>tb+1≤b∧b<σ'.nxt) (fun b h1 h2=>⟨h1,h2⟩) (fun _=>rfl) (by decide) (fun _=>rfl) ht).keep (fun b hb=>ho b hb.2) fun b hb=>.inr ⟨by omega,by omega⟩
 ·rw [h3 t ht]
  exact ⟨hT.g t ht,by have:=hT.l t ht; omega⟩
set_option maxRecDepth 10000 in
theorem agree_x {σ:St} (hW:WF σ) {p:Nat→Prop} {x1 x2 x3 C A:B} (al:List Agr) (hA:HAgrs p σ.h A al) (hl:LenA al) (nc:Nat) (hC:lenV (.c C)=some (.c (.int .i64 (.ofNat nc)))) (hnc:nc≤1000) (h1:x1.kn=true) (h2:x2.kn=true) (h3:x3.kn=true) (h4:C.kn=true)
  (p0 p1 p2:Nat) (b0:p0≤65535) (b1:p1≤65535) (b2:p2≤65535) :
  CallX EN 48 [.agg [x1,x2,x3,C,A],.agg [.int .u16 (.ofNat p0),.int .u16 (.ofNat p1),.int .u16 (.ofNat p2)]] σ fun r σ'=>(∃ rv a,r = .c rv∧HAgrs (fun b=>p b∨σ.nxt≤b∧b<σ'.nxt) σ'.h rv (al ++ [a])∧a.length=3∧∀ t,t<3→GoodT nc al (ix a t)∧(ix a t).length≤nc+1)∧Fr σ σ':=by
 refine call_fn (O_l0_agree _ _) F_l0_agree ?_
 unfold a_l0_agree
 have hAk:=hA.kn
 simp (config:={ maxSteps:=1000000 }) (disch:=first | assumption | decide | omega) only [go_sem,z3,hAk,hC,h4]
 refine RunX.mono (Q:=fun e tm σ'=>e = .exit 0∧∃ ts bs,Tr.getV tm 2 = .c (.ptr σ.nxt 0)∧Tr.getV tm 3 = .c (.ptr (σ.nxt+1) 0)∧Tr.getV tm 5 = .c (.sl (σ.nxt+1+1) 0 3 (.ex 3))
  ∧ σ'.h σ.nxt=some ⟨[x1,x2,x3,C,A],none⟩∧σ'.h (σ.nxt+1)=some ⟨[.int .u16 (.ofNat p0),.int .u16 (.ofNat p1),.int .u16 (.ofNat p2)],none⟩∧TI σ σ' (σ.nxt+1+1) nc nc al ts bs) (run_loop (fun q tm σ'=>∃ i ts bs,q=nc - i∧i≤nc∧Tr.getV tm 2 = .c (.ptr σ.nxt 0)∧Tr.getV tm 3 = .c (.ptr (σ.nxt+1) 0)∧Tr.getV tm 5 = .c (.sl (σ.nxt+1+1) 0 3 (.ex 3))∧Tr.getV tm 6 = .c (.int .i64 (.ofNat p1))∧Tr.getV tm 17 = .c (.int .i64 (.ofNat nc))∧Tr.getV tm 18 = .c (.int .i64 (.ofNat i))
  ∧ σ'.h σ.nxt=some ⟨[x1,x2,x3,C,A],none⟩∧σ'.h (σ.nxt+1)=some ⟨[.int .u16 (.ofNat p0),.int .u16 (.ofNat p1),.int .u16 (.ofNat p2)],none⟩∧TI σ σ' (σ.nxt+1+1) i nc al ts bs) nc ?_ ?_) ?_
 ·refine ⟨0,fun _=>[],fun _=>0,by omega,by omega,?_⟩
  simp (config:={ maxSteps:=1000000 }) (disch:=first | assumption | decide | omega) only [go_sem,z3,true_and]
  refine ⟨?_,FamL.nil _ _ _ _ _ _ _ _,fun t _ k hk=>by simp at hk,fun t _=>Nat.le_refl 0,Nat.le_refl _,?_⟩
  ·rw [hset_get]; rfl
  ·repeat (first | assumption | exact Fr.refl (by assumption) | exact Fr.up (by assumption) (by first | omega | (dsimp only; omega)) | exact Fr.up (Fr.refl (by assumption)) (by first | omega | (dsimp only; omega)) | refine Fr.set1 ?_ (by first | omega | (dsimp only; omega)) (by first | omega | (dsimp only; omega)) | refine Fr.del1 ?_ (by first | omega | (dsimp only; omega)) | refine Fr.newU ?_ (by first | omega | (dsimp only; omega)))
 ·rintro q tm σ' ⟨i,ts,bs,rfl,hi,t2,t3,t5,t6,t17,t18,q1,q2,hT⟩
  have hle:=hT.fr.le
  have hn:=hT.n
  unfold a_l0_agree_l0
  have hr:=div_le' p1 (2 ^ min (2*i) 64) 9223372036854775807 (by omega)
  simp (config:={ maxSteps:=1000000 }) (disch:=first | assumption | decide | omega) only [go_sem,z3,t2,t3,t5,t6,t17,t18,lt_ofNat]
  refine ifV_dec (fun hlt=>?_) (fun hlt=>?_)
  ·simp (config:={ maxSteps:=1000000 }) (disch:=first | assumption | decide | omega) only [go_sem,z3,t2,t3,t5,t6,t17,t18]
   have hx3:(p1/2 ^ min (2*i) 64) &&& 3≤3:=Nat.and_le_right
   generalize (p1/2 ^ min (2*i) 64) &&& 3=x at *
   refine gsV_dec' (fun hx0=>?_) (fun hx0=>?_)
   ·simp (config:={ maxSteps:=1000000 }) (disch:=first | assumption | decide | omega) only [go_sem,z3,t2,t3,t5,t6,t17,t18,hx0]
    exact ⟨nc - (i+1),by omega,i+1,ts,bs,rfl,by omega,rfl,q1,q2,hT.step (Fr.refl hT.fr.wf)⟩
   ·have hTb:=hT.b
    simp (config:={ maxSteps:=1000000 }) (disch:=first | assumption | decide | omega) only [go_sem,z3,t2,t3,t5,t6,t17,t18,hx0,ld_blk q1,h1,h2,h3,h4,hAk]
    refine (free_x hT.fr.wf al (hA.fr hW hT.fr) hl h1 h2 h3 h4 (.ofNat i)).mono ?_
    rintro _ σ3 ⟨⟨fb,rfl,hfb⟩,hf3⟩
    have q1':=hf3.get hT.fr.wf q1
    have q2':=hf3.get hT.fr.wf q2
    simp (config:={ maxSteps:=1000000 }) (disch:=first | assumption | decide | omega) only [go_sem,z3,t2,t3,t5,t6,t17,t18]
    cases fb
    ·simp (config:={ maxSteps:=1000000 }) (disch:=first | assumption | decide | omega) only [go_sem,z3,t2,t3,t5,t6,t17,t18]
     exact ⟨nc - (i+1),by omega,i+1,ts,bs,rfl,by omega,rfl,q1',q2',hT.step hf3⟩
    ·have hT3:=hT.step hf3
     have hf0:=hfb rfl
     have hF3:=hT3.fr
     have hTb:=hT3.b
     have hn3:=hT3.n
     have hle3:=hT3.fr.le
     have hkn:=famV_kn (ts (x - 1)) (bs (x - 1))
     have hpl:=prt_len (ts (x - 1))
     have hpt:=prt_take (ts (x - 1))
     have hxl:=hT3.l (x - 1) (by omega)
     have hr2:=div_le' p2 (2 ^ min i 64) 9223372036854775807 (by omega)
     have hr3:=div_le' p2 (2 ^ min 6 16) 9223372036854775807 (by omega)
     have hgood : ∀ (b:Bool) (w:Nat),w≤16→GoodP nc al ⟨.ofNat i,b,ofQ ((Int.ofNat w:Int):Rat)⟩:=fun b w hw=>⟨.inr ⟨i,hlt,rfl,hf0⟩,w,hw,rfl⟩
     simp (config:={ maxSteps:=1000000 }) (disch:=first | assumption | decide | omega) only [go_sem,z3,t2,t3,t5,t6,t17,t18,ld_blk q2']
     refine ifV_dec (fun hcap=>?_) (fun hcap=>?_)
     ·by_cases hz:(ts (x - 1)).length=0
      ·have he:famV (ts (x - 1)) (bs (x - 1)) = .nils:=by unfold famV; rw [if_pos hz]
       simp (config:={ maxSteps:=1000000 }) (disch:=first | assumption | decide | omega) only [go_sem,z3,t2,t3,t5,t6,t17,t18,ld_blk q2',ld_blk hTb,hTb,he]
       refine ⟨nc - (i+1),by omega,i+1,updF ts (x - 1) (ts (x - 1) ++ [⟨.ofNat i,true,ofQ ((Int.ofNat (p2/2 ^ min 6 16%9):Int):Rat)⟩]),updF bs (x - 1) (σ3.nxt+1+1),rfl,by omega,rfl,?_,?_,TI.push (i:=i) ⟨hT3.b,hT3.f,hT3.g,fun t ht=>?_,hT3.n,hT3.fr⟩ (by omega) (hgood true (p2/2 ^ min 6 16%9) (by omega)) ?_ ?_ ?_ ?_ ?_ ?_⟩
       ·exact q1'
       ·exact q2'
       ·exact hT.l t ht
       ·rw [hz,hset_get]
       ·rw [hset_ne _ _ _ _ (by omega),hset_get,hz]; rfl
       ·intro b h1 h2 h3
        simp (disch:=omega) only [hset_ne]
       ·omega
       ·omega
       ·repeat (first | assumption | exact Fr.refl (by assumption) | exact Fr.up (by assumption) (by first | omega | (dsimp only; omega)) | exact Fr.up (Fr.refl (by assumption)) (by first | omega | (dsimp only; omega)) | refine Fr.set1 ?_ (by first | omega | (dsimp only; omega)) (by first | omega | (dsimp only; omega)) | refine Fr.del1 ?_ (by first | omega | (dsimp only; omega)) | refine Fr.newU ?_ (by first | omega | (dsimp only; omega)))
      ·have he:=famV_pos (l:=ts (x - 1)) (by omega) (bs (x - 1))
       obtain ⟨k1,k2,k3⟩:=hT3.f.blk (x - 1) (by omega) (by omega)
       simp (config:={ maxSteps:=1000000 }) (disch:=first | assumption | decide | omega) only [go_sem,z3,t2,t3,t5,t6,t17,t18,ld_blk q2',ld_blk hTb,hTb,he,k1,hpt]
       refine ⟨nc - (i+1),by omega,i+1,updF ts (x - 1) (ts (x - 1) ++ [⟨.ofNat i,true,ofQ ((Int.ofNat (p2/2 ^ min 6 16%9):Int):Rat)⟩]),updF bs (x - 1) (σ3.nxt+1+1),rfl,by omega,rfl,?_,?_,TI.push (i:=i) ⟨hT3.b,hT3.f,hT3.g,fun t ht=>?_,hT3.n,hT3.fr⟩ (by omega) (hgood true (p2/2 ^ min 6 16%9) (by omega)) ?_ ?_ ?_ ?_ ?_ ?_⟩
       ·exact q1'
       ·exact q2'
       ·exact hT.l t ht
       ·rw [hset_get]
       ·rw [hset_ne _ _ _ _ (by omega),hset_get]; rfl
       ·intro b h1 h2 h3
        have h3:=h3 (by omega)
        simp (disch:=first | assumption | omega) only [hset_ne,hdel_ne]
       ·omega
       ·omega
       ·repeat (first | assumption | exact Fr.refl (by assumption) | exact Fr.up (by assumption) (by first | omega | (dsimp only; omega)) | exact Fr.up (Fr.refl (by assumption)) (by first | omega | (dsimp only; omega)) | refine Fr.set1 ?_ (by first | omega | (dsimp only; omega)) (by first | omega | (dsimp only; omega)) | refine Fr.del1 ?_ (by first | omega | (dsimp only; omega)) | refine Fr.newU ?_ (by first | omega | (dsimp only; omega)))
     ·by_cases hz:(ts (x - 1)).length=0
      ·have he:famV (ts (x - 1)) (bs (x - 1)) = .nils:=by unfold famV; rw [if_pos hz]
       simp (config:={ maxSteps:=1000000 }) (disch:=first | assumption | decide | omega) only [go_sem,z3,t2,t3,t5,t6,t17,t18,ld_blk q2',ld_blk hTb,hTb,he]
       refine ⟨nc - (i+1),by omega,i+1,updF ts (x - 1) (ts (x - 1) ++ [⟨.ofNat i,false,ofQ ((Int.ofNat (0):Int):Rat)⟩]),updF bs (x - 1) (σ3.nxt+1+1),rfl,by omega,rfl,?_,?_,TI.push (i:=i) ⟨hT3.b,hT3.f,hT3.g,fun t ht=>?_,hT3.n,hT3.fr⟩ (by omega) (hgood false (0) (by omega)) ?_ ?_ ?_ ?_ ?_ ?_⟩
       ·exact q1'
       ·exact q2'
       ·exact hT.l t ht
       ·rw [hz,hset_get]
       ·rw [hset_ne _ _ _ _ (by omega),hset_get,hz]; rfl
       ·intro b h1 h2 h3
        simp (disch:=omega) only [hset_ne]
       ·omega
       ·omega
       ·repeat (first | assumption | exact Fr.refl (by assumption) | exact Fr.up (by assumption) (by first | omega | (dsimp only; omega)) | exact Fr.up (Fr.refl (by assumption)) (by first | omega | (dsimp only; omega)) | refine Fr.set1 ?_ (by first | omega | (dsimp only; omega)) (by first | omega | (dsimp only; omega)) | refine Fr.del1 ?_ (by first | omega | (dsimp only; omega)) | refine Fr.newU ?_ (by first | omega | (dsimp only; omega)))
      ·have he:=famV_pos (l:=ts (x - 1)) (by omega) (bs (x - 1))
       obtain ⟨k1,k2,k3⟩:=hT3.f.blk (x - 1) (by omega) (by omega)
       simp (config:={ maxSteps:=1000000 }) (disch:=first | assumption | decide | omega) only [go_sem,z3,t2,t3,t5,t6,t17,t18,ld_blk q2',ld_blk hTb,hTb,he,k1,hpt]
       refine ⟨nc - (i+1),by omega,i+1,updF ts (x - 1) (ts (x - 1) ++ [⟨.ofNat i,false,ofQ ((Int.ofNat (0):Int):Rat)⟩]),updF bs (x - 1) (σ3.nxt+1+1),rfl,by omega,rfl,?_,?_,TI.push (i:=i) ⟨hT3.b,hT3.f,hT3.g,fun t ht=>?_,hT3.n,hT3.fr⟩ (by omega) (hgood false (0) (by omega)) ?_ ?_ ?_ ?_ ?_ ?_⟩
       ·exact q1'
       ·exact q2'
       ·exact hT.l t ht
       ·rw [hset_get]
       ·rw [hset_ne _ _ _ _ (by omega),hset_get]; rfl
       ·intro b h1 h2 h3
        have h3:=h3 (by omega)
        simp (disch:=first | assumption | omega) only [hset_ne,hdel_ne]
       ·omega
       ·omega
       ·repeat (first | assumption | exact Fr.refl (by assumption) | exact Fr.up (by assumption) (by first | omega | (dsimp only; omega)) | exact Fr.up (Fr.refl (by assumption)) (by first | omega | (dsimp only; omega)) | refine Fr.set1 ?_ (by first | omega | (dsimp only; omega)) (by first | omega | (dsimp only; omega)) | refine Fr.del1 ?_ (by first | omega | (dsimp only; omega)) | refine Fr.newU ?_ (by first | omega | (dsimp only; omega)))
  ·have:i=nc:=by omega
   subst this
   simp (config:={ maxSteps:=1000000 }) (disch:=first | assumption | decide | omega) only [go_sem,z3,true_and]
   exact ⟨ts,bs,t2,t3,t5,q1,q2,hT⟩
 ·rintro _ tm σ' ⟨rfl,ts,bs,t2,t3,t5,q1,q2,hT⟩
  have hF:=hT.fr
  have hle:=hT.fr.le
  have hn:=hT.n
  have hTb:=hT.b
  have hr0:=div_le' p0 8 65535 b0
  have hr1:=div_le' p0 32 65535 b0
  have hr2:=div_le' p0 96 65535 b0
  show RunX EN (.seq _ _) _ _ _
  refine run_mid (fun tm σ3=>∃ ts bs i2,i2≤nc+1∧Tr.getV tm 2 = .c (.ptr σ.nxt 0)∧Tr.getV tm 5 = .c (.sl (σ.nxt+1+1) 0 3 (.ex 3))∧σ3.h σ.nxt=some ⟨[x1,x2,x3,C,A],none⟩∧TI σ σ3 (σ.nxt+1+1) i2 nc al ts bs) ?_ ?_
  ·simp (config:={ maxSteps:=1000000 }) (disch:=first | assumption | decide | omega) only [go_sem,z3,t2,t3,t5,ld_blk q2]
   refine ifV_dec (fun hcap=>?_) (fun hcap=>?_)
   ·generalize hx:p0/32%3=x at *
    have hx3:x<3:=by omega
    have hkn:=famV_kn (ts x) (bs x)
    have hpl:=prt_len (ts x)
    have hpt:=prt_take (ts x)
    have hxl:=hT.l x hx3
    have hgood:GoodP nc al ⟨-1,true,ofQ ((Int.ofNat (p0/96%7):Int):Rat)⟩:=⟨.inl ⟨rfl,rfl⟩,_,by omega,rfl⟩
    by_cases hz:(ts x).length=0
    ·have he:famV (ts x) (bs x) = .nils:=by unfold famV; rw [if_pos hz]
     simp (config:={ maxSteps:=1000000 }) (disch:=first | assumption | decide | omega) only [go_sem,z3,t2,t3,t5,hx,ld_blk q2,ld_blk hTb,hTb,he]
     refine ⟨updF ts x (ts x ++ [⟨-1,true,ofQ ((Int.ofNat (p0/96%7):Int):Rat)⟩]),updF bs x (σ'.nxt+1),nc+1,by omega,q1,TI.push hT hx3 hgood ?_ ?_ ?_ ?_ ?_ ?_⟩
     ·rw [hz,hset_get]
     ·rw [hset_ne _ _ _ _ (by omega),hset_get,hz]; rfl
     ·intro b h1 h2 h3
      simp (disch:=omega) only [hset_ne]
     ·omega
     ·omega
     ·repeat (first | assumption | exact Fr.refl (by assumption) | exact Fr.up (by assumption) (by first | omega | (dsimp only; omega)) | exact Fr.up (Fr.refl (by assumption)) (by first | omega | (dsimp only; omega)) | refine Fr.set1 ?_ (by first | omega | (dsimp only; omega)) (by first | omega | (dsimp only; omega)) | refine Fr.del1 ?_ (by first | omega | (dsimp only; omega)) | refine Fr.newU ?_ (by first | omega | (dsimp only; omega)))
    ·have he:=famV_pos (l:=ts x) (by omega) (bs x)
     obtain ⟨k1,k2,k3⟩:=hT.f.blk x hx3 (by omega)
     simp (config:={ maxSteps:=1000000 }) (disch:=first | assumption | decide | omega) only [go_sem,z3,t2,t3,t5,hx,ld_blk q2,ld_blk hTb,hTb,he,k1,hpt]
     refine ⟨updF ts x (ts x ++ [⟨-1,true,ofQ ((Int.ofNat (p0/96%7):Int):Rat)⟩]),updF bs x (σ'.nxt+1),nc+1,by omega,q1,TI.push hT hx3 hgood ?_ ?_ ?_ ?_ ?_ ?_⟩
     ·rw [hset_get]
     ·rw [hset_ne _ _ _ _ (by omega),hset_get]; rfl
     ·intro b h1 h2 h3
      have h3:=h3 (by omega)
      simp (disch:=first | assumption | omega) only [hset_ne,hdel_ne]
     ·omega
     ·omega
     ·repeat (first | assumption | exact Fr.refl (by assumption) | exact Fr.up (by assumption) (by first | omega | (dsimp only; omega)) | exact Fr.up (Fr.refl (by assumption)) (by first | omega | (dsimp only; omega)) | refine Fr.set1 ?_ (by first | omega | (dsimp only; omega)) (by first | omega | (dsimp only; omega)) | refine Fr.del1 ?_ (by first | omega | (dsimp only; omega)) | refine Fr.newU ?_ (by first | omega | (dsimp only; omega)))
   ·simp (config:={ maxSteps:=1000000 }) (disch:=first | assumption | decide | omega) only [go_sem,z3,true_and]
    exact ⟨ts,bs,nc,by omega,t2,t5,q1,hT⟩
  ·rintro tm σ3 ⟨ts,bs,i2,hi2,t2,t5,q1,hT⟩
   have hF:=hT.fr
   have hle:=hT.fr.le
   have hn:=hT.n
   obtain ⟨T,hT1,hT2⟩:=hA
   have hTk : ∀ j,j<al.length→(T j).kn=true:=fun j hj=>by
    obtain ⟨b,o,c,e,-,hld⟩:=hT1.pos (by omega)
    exact (ld_one (hld j hj)).2
   have hal:=hl.1
   have hAk:=hT1.kn
   by_cases h0:al.length=0
   ·have hA0:A = .nils∨∃ b o c,A = .sl b o 0 c:=by
     rcases hT1 with ⟨-,e⟩ | ⟨b,o,c,e,-⟩
     ·exact .inl e
     ·exact .inr ⟨b,o,c,by rw [e,h0]⟩
    have hfin : ∀ h' : Tr Bk,h' = hset (hset σ3.h σ3.nxt ⟨[.sl (σ.nxt+1+1) 0 3 (.ex 3)],none⟩) (σ3.nxt+1) ⟨[.sl (σ.nxt+1+1) 0 3 (.ex 3)],some (1,82)⟩→(∃ rv a,V.c (.sl (σ3.nxt+1) 0 1 .opn) = .c rv∧HAgrs (fun b=>p b∨σ.nxt≤b∧b<σ3.nxt+1+1) h' rv (al ++ [a])∧a.length=3∧∀ t,t<3→GoodT nc al (ix a t)∧(ix a t).length≤nc+1)∧Fr σ ⟨h',σ3.nxt+1+1⟩:=fun h' e=>by
     subst e
     have:=agree_end (rb:=σ3.nxt+1) (n':=σ3.nxt+1+1) (h':=hset (hset σ3.h σ3.nxt ⟨[.sl (σ.nxt+1+1) 0 3 (.ex 3)],none⟩) (σ3.nxt+1) ⟨[.sl (σ.nxt+1+1) 0 3 (.ex 3)],some (1,82)⟩) hW hT2 hTk hT hi2 (by omega) (by rw [hset_get,h0]; rfl) (fun b9 h9=>by simp (disch:=omega) only [hset_ne]) (by omega) (by omega) (by repeat (first | assumption | exact Fr.refl (by assumption) | exact Fr.up (by assumption) (by first | omega | (dsimp only; omega)) | exact Fr.up (Fr.refl (by assumption)) (by first | omega | (dsimp only; omega)) | refine Fr.set1 ?_ (by first | omega | (dsimp only; omega)) (by first | omega | (dsimp only; omega)) | refine Fr.del1 ?_ (by first | omega | (dsimp only; omega)) | refine Fr.newU ?_ (by first | omega | (dsimp only; omega))))
     rw [h0] at this
     exact this
    rcases hA0 with rfl | ⟨b,o,c,rfl⟩
    ·simp (config:={ maxSteps:=1000000 }) (disch:=first | assumption | decide | omega) only [go_sem,z3,t2,t5,ld_blk q1,h1,h2,h3,h4,hAk]
     exact hfin _ rfl
    ·simp (config:={ maxSteps:=1000000 }) (disch:=first | assumption | decide | omega) only [go_sem,z3,t2,t5,ld_blk q1,h1,h2,h3,h4,hAk]
     exact hfin _ rfl
   ·obtain ⟨b,o,c,rfl,-,hld⟩:=hT1.pos (by omega)
    have hbl:=hW.ld_lt (hld 0 (by omega))
    obtain ⟨kk,e1,e2,e3,e4,e5⟩:=blk_of_ld (by omega) fun i hi=>hF.ld hW (hld i hi)
    simp (config:={ maxSteps:=1000000 }) (disch:=first | assumption | decide | omega) only [go_sem,z3,t2,t5,ld_blk q1,h1,h2,h3,h4,hAk,e1,e3,e4,e5,e2]
    refine agree_end hW hT2 hTk hT hi2 (by omega) ?_ ?_ (by omega) (by omega) ?_
    ·rw [hset_get,cel_take (e:=1) (G:=fun i=>[T i]) (fun _=>rfl),cel_snoc]
     congr 2
     refine cel_congr fun j hj=>?_
     unfold updG
     by_cases e:j=al.length
     ·rw [if_pos e,if_neg (by omega)]
     ·rw [if_neg e,if_pos (by omega)]
    ·intro b9 h9
     simp (disch:=omega) only [hset_ne,hdel_ne]
    ·repeat (first | assumption | exact Fr.refl (by assumption) | exact Fr.up (by assumption) (by first | omega | (dsimp only; omega)) | exact Fr.up (Fr.refl (by assumption)) (by first | omega | (dsimp only; omega)) | refine Fr.set1 ?_ (by first | omega | (dsimp only; omega)) (by first | omega | (dsimp only; omega)) | refine Fr.del1 ?_ (by first | omega | (dsimp only; omega)) | refine Fr.newU ?_ (by first | omega | (dsimp only; omega)))
end Go.Proofs.Xe
