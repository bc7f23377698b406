/- insolvencylaw0.agree, in the executor's words. -/
import Derived.Test.YtiaefgffeekfkaaGreatDoorY34
set_option linter.unusedSimpArgs false
set_option linter.unusedVariables false
set_option maxHeartbeats 8000000
namespace Go.Proofs.Xe
open Go.RowKit Go.Proofs.Ins
theorem run_mid {E:Env} {a b:AC} {tm:Tr V} {σ:St} {Q:AX→Tr V→St→Prop} (M:Tr V→St→Prop) (h1:RunX E a tm σ fun e tm σ=>e = .normal∧M tm σ) (h2 : ∀ tm' σ',M tm' σ'→RunX E b tm' σ' Q):RunX E (.seq a b) tm σ Q :=
 run_seq (h1.mono fun e tm σ' ⟨he,hm⟩=>by subst he;exact h2 _ _ hm)
structure FamL {α:Type} [Inhabited α] (h:Tr Bk) (n:Nat) (c:α→List B) (e ty:Nat) (L:Nat→List α) (bs:Nat→Nat) (lo hi:Nat):Prop where
 blk : ∀ i,i<n→0<(L i).length→h (bs i)=some ⟨celR (L i).length (fun k=>c (ix (L i) k)),some (e,ty)⟩∧lo≤bs i∧bs i<hi
 inj : ∀ i j,i<n→j<n→0<(L i).length→0<(L j).length→bs i=bs j→i=j
section
variable {α:Type} [Inhabited α] {h h' : Tr Bk} {n e ty lo hi:Nat} {c:α→List B} {L:Nat→List α} {bs:Nat→Nat}
theorem FamL.nil (h:Tr Bk) (n:Nat) (c:α→List B) (e ty:Nat) (bs:Nat→Nat) (lo hi:Nat):FamL h n c e ty (fun _=>[]) bs lo hi:=⟨fun i _ h=>by simp at h,fun i j _ _ h=>by simp at h⟩
theorem FamL.mono (hf:FamL h n c e ty L bs lo hi) (hh : ∀ b,lo≤b→b<hi→h' b=h b) {hi' : Nat} (h2:hi≤hi'):FamL h' n c e ty L bs lo hi' :=
 ⟨fun i hi hp=>by obtain ⟨k1,k2,k3⟩:=hf.blk i hi hp;exact ⟨by rw [hh _ k2 k3];exact k1,k2,by omega⟩,hf.inj⟩
theorem ix_snoc_lt (l:List α) (x:α) {k:Nat} (h:k<l.length):ix (l ++ [x]) k=ix l k:=by rw [ix_append,if_pos h]
theorem ix_snoc_eq (l:List α) (x:α):ix (l ++ [x]) l.length=x:=by rw [ix_append,if_neg (by omega),if_pos rfl]
theorem FamL.push (hf:FamL h n c e ty L bs lo hi) {i nx:Nat} (hi' : i<n) (x:α) {cells:List B} (hc:cells=celR (L i).length (fun k=>c (ix (L i) k)) ++ c x) (h1:h' nx=some ⟨cells,some (e,ty)⟩)
  (hh : ∀ j,j<n→j≠i→0<(L j).length→h' (bs j)=h (bs j)) (hlo:lo≤nx) (hnx:hi≤nx) {hi2:Nat} (h2:nx<hi2):FamL h' n c e ty (updF L i (L i ++ [x])) (updF bs i nx) lo hi2:=by
 refine ⟨fun j hj hp=>?_,fun a b ha hb pa pb e=>?_⟩
 ·by_cases e:j=i
  ·subst e
   rw [updF_same,updF_same,List.length_append,List.length_singleton]
   refine ⟨?_,hlo,h2⟩
   rw [h1,hc,cel_snoc]
   congr 2
   refine cel_congr fun k hk=>?_
   unfold updG
   split
   ·next e=>rw [e,ix_snoc_eq]
   ·rw [ix_snoc_lt _ _ (by omega)]
  ·rw [updF_ne _ _ _ _ e] at hp ⊢
   rw [updF_ne _ _ _ _ e]
   obtain ⟨k1,k2,k3⟩:=hf.blk j hj hp
   exact ⟨by rw [hh j hj e hp];exact k1,k2,by omega⟩
 ·by_cases e1:a=i
  ·by_cases e2:b=i
   ·rw [e1,e2]
   ·rw [e1,updF_same,updF_ne _ _ _ _ e2] at e
    rw [updF_ne _ _ _ _ e2] at pb
    have:=(hf.blk b hb pb).2.2
    omega
  ·by_cases e2:b=i
   ·rw [e2,updF_same,updF_ne _ _ _ _ e1] at e
    rw [updF_ne _ _ _ _ e1] at pa
    have:=(hf.blk a ha pa).2.2
    omega
   ·rw [updF_ne _ _ _ _ e1] at pa
    rw [updF_ne _ _ _ _ e2] at pb
    rw [updF_ne _ _ _ _ e1,updF_ne _ _ _ _ e2] at e
    exact hf.inj a b ha hb pa pb e
theorem FamL.hlp (hf:FamL h n c e ty L bs lo hi) {p:Nat→Prop} (hp : ∀ b,lo≤b→b<hi→p b) (hc : ∀ x,(c x).length=e) (he:0<e) (hk : ∀ x,(c x).all B.kn=true) {i:Nat} (hi' : i<n):HLp p h e (famV (L i) (bs i)) (L i).length fun k=>c (ix (L i) k):=by
 by_cases h0:(L i).length=0
 ·exact .inl ⟨h0,by unfold famV;rw [if_pos h0]⟩
 ·obtain ⟨k1,k2,k3⟩:=hf.blk i hi' (by omega)
  rw [famV_pos (by omega)]
  exact cel_hlp _ k1 (by rw [rdo_s _ _ (by omega)]) (hp _ k2 k3) (fun _=>hc _) he fun _ _=>hk _
end
theorem HAgrs.lt {σ:St} (hW:WF σ) {p:Nat→Prop} {v:B} {l:List Agr} (hl:HAgrs p σ.h v l):HAgrs (Lt σ.nxt) σ.h v l:=by
 obtain ⟨T,k1,k2⟩:=hl
 refine ⟨T,k1.lt hW,fun j hj=>?_⟩
 obtain ⟨U,m1,m2⟩:=k2 j hj
 exact ⟨U,m1.lt hW,fun l hl=>(m2 l hl).lt hW⟩
theorem HAgrs.fr {σ σ' : St} (hW:WF σ) (hf:Fr σ σ') {p:Nat→Prop} {v:B} {l:List Agr} (hl:HAgrs p σ.h v l):HAgrs (Lt σ.nxt) σ'.h v l:=(hl.lt hW).keep hf.lt fun _ h=>h
def FreeA (al:List Agr) (c:Int):Prop:=∀ j,j<al.length→∀ t,t<(ix al j).length→∀ p,p<(ix (ix al j) t).length→(ix (ix (ix al j) t) p).k≠c
def LenA (al:List Agr):Prop:=al.length≤1000∧∀ j,j<al.length→(ix al j).length≤1000∧∀ t,t<(ix al j).length→(ix (ix al j) t).length≤1000
set_option maxRecDepth 10000 in
theorem free_x {σ:St} (hW:WF σ) {p:Nat→Prop} {x1 x2 x3 C A:B} (al:List Agr) (hA:HAgrs p σ.h A al) (hl:LenA al) (h1:x1.kn=true) (h2:x2.kn=true) (h3:x3.kn=true) (h4:C.kn=true) (c:Int) :
  CallX EN 85 [.agg [x1,x2,x3,C,A],.c (.int .i64 c)] σ fun r σ'=>(∃ b,r = .c (.bool b)∧(b=true→FreeA al c))∧Fr σ σ':=by
 refine call_fn (O_l0_free _ _) F_l0_free ?_
 unfold a_l0_free
 obtain ⟨T,hT,hT2⟩:=hA
 have hlen:=hT.len
 have hkn:=hT.kn
 simp (maxSteps:=9^9) (disch:=first|assumption|decide|omega) only [go_sem,z3,hkn,hlen]
 refine run_loop (fun q tm σ'=>∃ j,q=al.length - j∧j≤al.length∧Tr.getV tm 1 = .c (.int .i64 c)∧Tr.getV tm 12 = .c A∧Tr.getV tm 13 = .c (.int .i64 (.ofNat al.length))∧Tr.getV tm 14 = .c (.int .i64 (.ofNat j))
  ∧ (∀ j',j' < j→∀ t,t<(ix al j').length→∀ p,p<(ix (ix al j') t).length→(ix (ix (ix al j') t) p).k≠c)∧Fr σ σ') al.length ?_ ?_
 ·refine ⟨0,by omega,by omega,?_⟩
  simp (maxSteps:=9^9) (disch:=first|assumption|decide|omega) only [go_sem,z3,true_and]
  exact ⟨fun j hj=>by omega,fr⟩
 ·rintro q tm σ' ⟨j,rfl,hj,t1,t12,t13,t14,hfree,hf⟩
  have hle:=hf.le
  have hl0:=hl.1
  simp (maxSteps:=9^9) (disch:=first|assumption|decide|omega) only [go_sem,z3,t1,t12,t13,t14,lt_ofNat]
  refine ifV_dec (fun hlt=>?_) (fun hlt=>?_)
  ·obtain ⟨b,o,cc,rfl,-,hld⟩:=hT.pos (by omega)
   have hld:=hf.ld hW (hld j hlt)
   have hlk:=(ld_one hld).2
   have hTj:=hT2 j hlt
   obtain ⟨hlj,hlj2⟩:=hl.2 j hlt
   generalize hag:ix al j=ag at *
   obtain ⟨U,hU,hU2⟩:=hTj
   have hlenU:=hU.len
   simp (maxSteps:=9^9) (disch:=first|assumption|decide|omega) only [go_sem,z3,t1,t12,t13,t14,hld,hlk,hlenU]
   refine run_loop (fun q tm σ3=>∃ t,q=ag.length - t∧t≤ag.length∧Tr.getV tm 1 = .c (.int .i64 c)∧Tr.getV tm 12 = .c (.sl b o al.length cc)∧Tr.getV tm 13 = .c (.int .i64 (.ofNat al.length))∧Tr.getV tm 14 = .c (.int .i64 (.ofNat j))
    ∧ Tr.getV tm 19 = .c (T j)∧Tr.getV tm 20 = .c (.int .i64 (.ofNat ag.length))∧Tr.getV tm 21 = .c (.int .i64 (.ofNat t))
    ∧ (∀ t',t' < t→∀ p,p<(ix ag t').length→(ix (ix ag t') p).k≠c)∧Fr σ σ3) ag.length ?_ ?_
   ·refine ⟨0,by omega,by omega,?_⟩
    simp (maxSteps:=9^9) (disch:=first|assumption|decide|omega) only [go_sem,z3,t1,t12,t13,t14,true_and]
    exact ⟨fun t ht=>by omega,fr⟩
   ·rintro q tm3 σ3 ⟨t,rfl,ht,t1,t12,t13,t14,t19,t20,t21,hfree3,hf3⟩
    simp (maxSteps:=9^9) (disch:=first|assumption|decide|omega) only [go_sem,z3,t1,t12,t13,t14,t19,t20,t21,lt_ofNat]
    refine ifV_dec (fun hlt3=>?_) (fun hlt3=>?_)
    ·obtain ⟨b3,o3,c3,e3,-,hld3⟩:=hU.pos (by omega)
     have hld3:=hf3.ld hW (hld3 t hlt3)
     have hld3:=(ld_one hld3).1
     have hPt:=hU2 t hlt3
     have hlt4:=hlj2 t hlt3
     generalize hti:ix ag t=ti at *
     have hlenP:=hPt.len
     rw [e3] at t19
     simp (maxSteps:=9^9) (disch:=first|assumption|decide|omega) only [go_sem,z3,t1,t12,t13,t14,t19,t20,t21,hld3,hlenP]
     refine run_loop (fun q tm σ5=>∃ k,q=ti.length - k∧k≤ti.length∧Tr.getV tm 1 = .c (.int .i64 c)∧Tr.getV tm 12 = .c (.sl b o al.length cc)∧Tr.getV tm 13 = .c (.int .i64 (.ofNat al.length))∧Tr.getV tm 14 = .c (.int .i64 (.ofNat j))
      ∧ Tr.getV tm 19 = .c (.sl b3 o3 ag.length c3)∧Tr.getV tm 20 = .c (.int .i64 (.ofNat ag.length))∧Tr.getV tm 21 = .c (.int .i64 (.ofNat t))
      ∧ Tr.getV tm 25 = .c (U t)∧Tr.getV tm 26 = .c (.int .i64 (.ofNat ti.length))∧Tr.getV tm 27 = .c (.int .i64 (.ofNat k))
      ∧ (∀ p,p<k→(ix ti p).k≠c)∧Fr σ σ5) ti.length ?_ ?_
     ·refine ⟨0,by omega,by omega,?_⟩
      simp (maxSteps:=9^9) (disch:=first|assumption|decide|omega) only [go_sem,z3,t1,t12,t13,t14,t19,t20,t21,true_and]
      exact ⟨fun t ht=>by omega,hf3⟩
     ·rintro q tm5 σ5 ⟨k,rfl,hk,t1,t12,t13,t14,t19,t20,t21,t25,t26,t27,hfree5,hf5⟩
      simp (maxSteps:=9^9) (disch:=first|assumption|decide|omega) only [go_sem,z3,t1,t12,t13,t14,t19,t20,t21,t25,t26,t27,lt_ofNat]
      refine ifV_dec (fun hlt5=>?_) (fun hlt5=>?_)
      ·obtain ⟨b5,o5,c5,e5,-,hld5⟩:=hPt.pos (by omega)
       have hld5:=hf5.ld hW (hld5 k hlt5)
       unfold prtB at hld5
       rw [e5] at t25
       have hle5:=hf5.le
       simp (maxSteps:=9^9) (disch:=first|assumption|decide|omega) only [go_sem,z3,t1,t12,t13,t14,t19,t20,t21,t25,t26,t27,hld5]
       refine ifV_dec (fun hq=>?_) (fun hq=>?_)
       ·simp (maxSteps:=9^9) (disch:=first|assumption|decide|omega) only [go_sem,z3,t1]
        exact ⟨⟨_,rfl,fun h=>by cases h⟩,fr⟩
       ·simp (maxSteps:=9^9) (disch:=first|assumption|decide|omega) only [go_sem,z3,t1,t12,t13,t14,t19,t20,t21,t25,t26,t27]
        refine ⟨ti.length - (k+1),by omega,k+1,rfl,by omega,by rw [e5],rfl,fun p hp=>?_,fr⟩
        by_cases e:p=k
        ·rw [e];exact hq
        ·exact hfree5 p (by omega)
      ·have:k=ti.length:=by omega
       subst this
       simp (maxSteps:=9^9) (disch:=first|assumption|decide|omega) only [go_sem,z3,t1,t12,t13,t14,t19,t20,t21]
       refine ⟨ag.length - (t+1),by omega,t+1,rfl,by omega,by rw [e3],rfl,fun t' ht'=>?_,hf5⟩
       by_cases e:t' = t
       ·rw [e,hti];exact hfree5
       ·exact hfree3 t' (by omega)
    ·have:t=ag.length:=by omega
     subst this
     simp (maxSteps:=9^9) (disch:=first|assumption|decide|omega) only [go_sem,z3,t1,t12,t13,t14]
     refine ⟨al.length - (j+1),by omega,j+1,rfl,by omega,rfl,fun j' hj'=>?_,hf3⟩
     by_cases e:j' = j
     ·rw [e,hag];exact hfree3
     ·exact hfree j' (by omega)
  ·have:j=al.length:=by omega
   subst this
   simp (maxSteps:=9^9) (disch:=first|assumption|decide|omega) only [go_sem,z3,t1]
   exact ⟨⟨_,rfl,fun _=>hfree⟩,hf⟩
def GoodP (nc:Nat) (al:List Agr) (x:Prt):Prop:=((x.k = -1∧x.b=true)∨∃ i:Nat,i<nc∧x.k=(i:Int)∧FreeA al x.k)∧∃ w:Nat,w≤16∧x.a=ofQ ((Int.ofNat w:Int):Rat)
def GoodT (nc:Nat) (al:List Agr) (t:List Prt):Prop:=∀ k,k<t.length→GoodP nc al (ix t k)
theorem GoodT.snoc {nc:Nat} {al:List Agr} {t:List Prt} {x:Prt} (h:GoodT nc al t) (hx:GoodP nc al x):GoodT nc al (t ++ [x]):=fun k hk=>by
 rw [List.length_append,List.length_singleton] at hk
 by_cases e:k=t.length
 ·rw [e,ix_snoc_eq];exact hx
 ·rw [ix_snoc_lt _ _ (by omega)];exact h k (by omega)
theorem x_lWholeN {E:Env} [HasO E] {σ:St} {K:V→St→Prop} (w:Nat) (h:w≤9223372036854775807):CallX E 31 [.c (.int .i64 (.ofNat w))] σ K=K (.agg [.bool (rn ((Int.ofNat w:Int):Rat)),.str (rs ((Int.ofNat w:Int):Rat)),.str (rd ((Int.ofNat w:Int):Rat))]) σ:=x_lWhole _ (by simp only [Int.ofNat_eq_natCast];omega) (by simp only [Int.ofNat_eq_natCast];omega)
attribute [go_sem] x_lWholeN
structure TI (σ σ' : St) (tb i nc:Nat) (al:List Agr) (ts:Nat→List Prt) (bs:Nat→Nat):Prop where
 b:σ'.h tb=some ⟨ones 3 (fun t=>famV (ts t) (bs t)),none⟩
 f:FamL σ'.h 3 prtB 5 84 ts bs (tb+1) σ'.nxt
 g : ∀ t,t<3→GoodT nc al (ts t)
 l : ∀ t,t<3→(ts t).length≤i
 n:tb+1≤σ'.nxt
 fr:Fr σ σ'
theorem famV_snoc (ts:Nat→List Prt) (bs:Nat→Nat) (t nx:Nat) (x:Prt):(fun j=>famV (updF ts t (ts t ++ [x]) j) (updF bs t nx j))=updF (fun j=>famV (ts j) (bs j)) t (.sl nx 0 ((ts t).length+1) .opn):=by
 funext j
 unfold updF
 split
 ·next e=>rw [famV_pos (by simp),List.length_append];rfl
 ·rfl
theorem prt_len (l:List Prt):l.length*5≤(celR l.length (fun k=>prtB (ix l k))).length:=by rw [cel_len (e:=5) fun _=>rfl];exact Nat.le_refl _
theorem prt_take (l:List Prt):(celR l.length (fun k=>prtB (ix l k))).take (l.length*5)=celR l.length (fun k=>prtB (ix l k)):=cel_take fun _=>rfl
section
variable {σ σ' : St} {tb i nc:Nat} {al:List Agr} {ts:Nat→List Prt} {bs:Nat→Nat}
theorem TI.step (hT:TI σ σ' tb i nc al ts bs) {σ3:St} (hf:Fr σ' σ3):TI σ σ3 tb (i+1) nc al ts bs:=by
 have hn:=hT.n
 have hle:=hf.le
 exact ⟨by rw [hf.old _ (by omega)];exact hT.b,hT.f.mono (fun b _ hb=>hf.old b hb) hle,hT.g,fun t ht=>by have:=hT.l t ht;omega,by omega,hT.fr.trans hf⟩
theorem TI.push (hT:TI σ σ' tb i nc al ts bs) {t nx n' : Nat} {x:Prt} {h' : Tr Bk} (ht:t<3) (hg:GoodP nc al x) (hb:h' tb=some ⟨ones 3 (updF (fun j=>famV (ts j) (bs j)) t (.sl nx 0 ((ts t).length+1) .opn)),none⟩)
  (hx:h' nx=some ⟨celR (ts t).length (fun k=>prtB (ix (ts t) k)) ++ prtB x,some (5,84)⟩) (ho : ∀ b,tb+1≤b→b<σ'.nxt→(0<(ts t).length→b≠bs t)→h' b=σ'.h b) (hn:σ'.nxt≤nx) (hn' : nx<n') (hf:Fr σ ⟨h',n'⟩) :
  TI σ ⟨h',n'⟩ tb (i+1) nc al (updF ts t (ts t ++ [x])) (updF bs t nx):=by
 have hn0:=hT.n
 refine ⟨?_,?_,fun j hj=>?_,fun j hj=>?_,by show tb+1≤n';omega,hf⟩
 ·rw [famV_snoc];exact hb
 ·refine hT.f.push ht x rfl hx (fun j hj e hp=>?_) (by omega) hn hn'
  obtain ⟨-,k2,k3⟩:=hT.f.blk j hj hp
  exact ho _ k2 k3 fun hp2 e2=>e (hT.f.inj j t hj ht hp hp2 e2)
 ·unfold updF
  split
  ·next e=>exact (hT.g t ht).snoc hg
  ·exact hT.g j hj
 ·unfold updF
  split
  ·next e=>rw [List.length_append,List.length_singleton];have:=hT.l t ht;omega
  ·have:=hT.l j hj;omega
end
theorem HLp.plt {σ:St} (hW:WF σ) {p:Nat→Prop} {e n:Nat} {v:B} {G:Nat→List B} (hl:HLp p σ.h e v n G):HLp (fun b=>p b∧b<σ.nxt) σ.h e v n G:=by
 rcases hl with h|⟨b,o,c,h1,h2,h3⟩
 ·exact .inl h
 ·exact .inr ⟨b,o,c,h1,fun h=>⟨h2 h,hW.ld_lt (h3 0 h)⟩,h3⟩
theorem HTiers.plt {σ:St} (hW:WF σ) {p:Nat→Prop} {v:B} {l:Agr} (hl:HTiers p σ.h v l):HTiers (fun b=>p b∧b<σ.nxt) σ.h v l:=by
 obtain ⟨T,k1,k2⟩:=hl
 exact ⟨T,k1.plt hW,fun j hj=>(k2 j hj).plt hW⟩
theorem agree_end {σ σ' : St} {tb i nc:Nat} {al:List Agr} {ts:Nat→List Prt} {bs:Nat→Nat} (hW:WF σ) {p:Nat→Prop} {T:Nat→B} (hT2 : ∀ j,j<al.length→HTiers p σ.h (T j) (ix al j)) (hTk : ∀ j,j<al.length→(T j).kn=true) (hT:TI σ σ' tb i nc al ts bs) (hi:i≤nc+1) (htb:σ.nxt≤tb)
  {h' : Tr Bk} {n' rb:Nat} (hr:h' rb=some ⟨celR (al.length+1) (fun j=>[if j<al.length then T j else .sl tb 0 3 (.ex 3)]),some (1,82)⟩) (ho : ∀ b,b<σ'.nxt→h' b=σ'.h b) (hrb:σ'.nxt≤rb) (hn:rb<n') (hf:Fr σ ⟨h',n'⟩) :
  (∃ rv a,V.c (.sl rb 0 (al.length+1) .opn) = .c rv∧HAgrs (fun b=>p b∨σ.nxt≤b∧b<n') h' rv (al ++ [a])∧a.length=3∧∀ t,t<3→GoodT nc al (ix a t)∧(ix a t).length≤nc+1)∧Fr σ ⟨h',n'⟩:=by
 have hle:=hT.fr.le
 have hn1:=hT.n
 have h3 : ∀ t,t<3→ix [ts 0,ts 1,ts 2] t=ts t:=fun t ht=>by
  match t,ht with
  | 0,_=>rfl
  | 1,_=>rfl
  | 2,_=>rfl
 refine ⟨⟨_,[ts 0,ts 1,ts 2],rfl,⟨fun j=>if j<al.length then T j else .sl tb 0 3 (.ex 3),?_,fun j hj=>?_⟩,rfl,fun t ht=>?_⟩,hf⟩
 ·have:(al ++ [[ts 0,ts 1,ts 2]]).length=al.length+1:=by simp
  rw [this]
  exact cel_hlp _ hr rfl (.inr ⟨by omega,hn⟩) (fun _=>rfl) (by decide) fun j hj=>by
   dsimp only
   split
   ·next e=>simp only [List.all_cons,List.all_nil,hTk j e,Bool.and_self]
   ·rfl
 ·have hj' : j<al.length+1:=by simpa using hj
  dsimp only
  by_cases e:j<al.length
  ·rw [if_pos e,ix_snoc_lt _ _ e]
   refine ((hT2 j e).plt hW).keep (fun b hb=>?_) fun b hb=>.inl hb.1
   rw [ho b (by omega),hT.fr.old b hb.2]
  ·rw [if_neg e]
   obtain rfl:j=al.length:=by omega
   rw [ix_snoc_eq]
   refine ⟨fun t=>famV (ts t) (bs t),?_,fun t ht=>?_⟩
   ·have hb:h' tb=some ⟨celR 3 (fun t=>[famV (ts t) (bs t)]),none⟩:=by rw [ho tb (by omega)];exact hT.b
    exact cel_hlp _ hb rfl (.inr ⟨htb,by omega⟩) (fun _=>rfl) (by decide) fun j _=>by simp only [List.all_cons,List.all_nil,famV_kn,Bool.and_self]
   ·have ht:t<3:=ht
    rw [h3 t ht]
    exact (hT.f.hlp (p:=fun b=>tb+1≤b∧b<σ'.nxt) (fun b h1 h2=>⟨h1,h2⟩) (fun _=>rfl) (by decide) (fun _=>rfl) ht).keep (fun b hb=>ho b hb.2) fun b hb=>.inr ⟨by omega,by omega⟩
 ·rw [h3 t ht]
  exact ⟨hT.g t ht,by have:=hT.l t ht;omega⟩
set_option maxRecDepth 10000 in
theorem agree_x {σ:St} (hW:WF σ) {p:Nat→Prop} {x1 x2 x3 C A:B} (al:List Agr) (hA:HAgrs p σ.h A al) (hl:LenA al) (nc:Nat) (hC:lenV (.c C)=some (.c (.int .i64 (.ofNat nc)))) (hnc:nc≤1000) (h1:x1.kn=true) (h2:x2.kn=true) (h3:x3.kn=true) (h4:C.kn=true)
  (p0 p1 p2:Nat) (b0:p0≤65535) (b1:p1≤65535) (b2:p2≤65535) :
  CallX EN 48 [.agg [x1,x2,x3,C,A],.agg [.int .u16 (.ofNat p0),.int .u16 (.ofNat p1),.int .u16 (.ofNat p2)]] σ fun r σ'=>(∃ rv a,r = .c rv∧HAgrs (fun b=>p b∨σ.nxt≤b∧b<σ'.nxt) σ'.h rv (al ++ [a])∧a.length=3∧∀ t,t<3→GoodT nc al (ix a t)∧(ix a t).length≤nc+1)∧Fr σ σ':=by
 refine call_fn (O_l0_agree _ _) F_l0_agree ?_
 unfold a_l0_agree
 have hAk:=hA.kn
 simp (maxSteps:=9^9) (disch:=first|assumption|decide|omega) only [go_sem,z3,hAk,hC,h4]
 refine RunX.mono (Q:=fun e tm σ'=>e = .exit 0∧∃ ts bs,Tr.getV tm 2 = .c (.ptr σ.nxt 0)∧Tr.getV tm 3 = .c (.ptr (σ.nxt+1) 0)∧Tr.getV tm 5 = .c (.sl (σ.nxt+1+1) 0 3 (.ex 3))
  ∧ σ'.h σ.nxt=some ⟨[x1,x2,x3,C,A],none⟩∧σ'.h (σ.nxt+1)=some ⟨[.int .u16 (.ofNat p0),.int .u16 (.ofNat p1),.int .u16 (.ofNat p2)],none⟩∧TI σ σ' (σ.nxt+1+1) nc nc al ts bs) (run_loop (fun q tm σ'=>∃ i ts bs,q=nc - i∧i≤nc∧Tr.getV tm 2 = .c (.ptr σ.nxt 0)∧Tr.getV tm 3 = .c (.ptr (σ.nxt+1) 0)∧Tr.getV tm 5 = .c (.sl (σ.nxt+1+1) 0 3 (.ex 3))∧Tr.getV tm 6 = .c (.int .i64 (.ofNat p1))∧Tr.getV tm 17 = .c (.int .i64 (.ofNat nc))∧Tr.getV tm 18 = .c (.int .i64 (.ofNat i))
  ∧ σ'.h σ.nxt=some ⟨[x1,x2,x3,C,A],none⟩∧σ'.h (σ.nxt+1)=some ⟨[.int .u16 (.ofNat p0),.int .u16 (.ofNat p1),.int .u16 (.ofNat p2)],none⟩∧TI σ σ' (σ.nxt+1+1) i nc al ts bs) nc ?_ ?_) ?_
 ·refine ⟨0,fun _=>[],fun _=>0,by omega,by omega,?_⟩
  simp (maxSteps:=9^9) (disch:=first|assumption|decide|omega) only [go_sem,z3,true_and]
  refine ⟨?_,FamL.nil _ _ _ _ _ _ _ _,fun t _ k hk=>by simp at hk,fun t _=>Nat.le_refl 0,Nat.le_refl _,?_⟩
  ·rw [hset_get];rfl
  ·exact fr
 ·rintro q tm σ' ⟨i,ts,bs,rfl,hi,t2,t3,t5,t6,t17,t18,q1,q2,hT⟩
  have hle:=hT.fr.le
  have hn:=hT.n
  unfold a_l0_agree_l0
  have hr:=div_le' p1 (2 ^ min (2*i) 64) 9223372036854775807 (by omega)
  simp (maxSteps:=9^9) (disch:=first|assumption|decide|omega) only [go_sem,z3,t2,t3,t5,t6,t17,t18,lt_ofNat]
  refine ifV_dec (fun hlt=>?_) (fun hlt=>?_)
  ·simp (maxSteps:=9^9) (disch:=first|assumption|decide|omega) only [go_sem,z3,t2,t3,t5,t6,t17,t18]
   have hx3:(p1/2 ^ min (2*i) 64) &&& 3≤3:=Nat.and_le_right
   generalize (p1/2 ^ min (2*i) 64) &&& 3=x at *
   refine gsV_dec' (fun hx0=>?_) (fun hx0=>?_)
   ·simp (maxSteps:=9^9) (disch:=first|assumption|decide|omega) only [go_sem,z3,t2,t3,t5,t6,t17,t18,hx0]
    exact ⟨nc - (i+1),by omega,i+1,ts,bs,rfl,by omega,rfl,q1,q2,hT.step (Fr.refl hT.fr.wf)⟩
   ·have hTb:=hT.b
    simp (maxSteps:=9^9) (disch:=first|assumption|decide|omega) only [go_sem,z3,t2,t3,t5,t6,t17,t18,hx0,ld_blk q1,h1,h2,h3,h4,hAk]
    refine (free_x hT.fr.wf al (hA.fr hW hT.fr) hl h1 h2 h3 h4 (.ofNat i)).mono ?_
    rintro _ σ3 ⟨⟨fb,rfl,hfb⟩,hf3⟩
    have q1':=hf3.get hT.fr.wf q1
    have q2':=hf3.get hT.fr.wf q2
    simp (maxSteps:=9^9) (disch:=first|assumption|decide|omega) only [go_sem,z3,t2,t3,t5,t6,t17,t18]
    cases fb
    ·simp (maxSteps:=9^9) (disch:=first|assumption|decide|omega) only [go_sem,z3,t2,t3,t5,t6,t17,t18]
     exact ⟨nc - (i+1),by omega,i+1,ts,bs,rfl,by omega,rfl,q1',q2',hT.step hf3⟩
    ·have hT3:=hT.step hf3
     have hf0:=hfb rfl
     have hF3:=hT3.fr
     have hTb:=hT3.b
     have hn3:=hT3.n
     have hle3:=hT3.fr.le
     have hkn:=famV_kn (ts (x - 1)) (bs (x - 1))
     have hpl:=prt_len (ts (x - 1))
     have hpt:=prt_take (ts (x - 1))
     have hxl:=hT3.l (x - 1) (by omega)
     have hr2:=div_le' p2 (2 ^ min i 64) 9223372036854775807 (by omega)
     have hr3:=div_le' p2 (2 ^ min 6 16) 9223372036854775807 (by omega)
     have hgood : ∀ (b:Bool) (w:Nat),w≤16→GoodP nc al ⟨.ofNat i,b,ofQ ((Int.ofNat w:Int):Rat)⟩:=fun b w hw=>⟨.inr ⟨i,hlt,rfl,hf0⟩,w,hw,rfl⟩
     simp (maxSteps:=9^9) (disch:=first|assumption|decide|omega) only [go_sem,z3,t2,t3,t5,t6,t17,t18,ld_blk q2']
     refine ifV_dec (fun hcap=>?_) (fun hcap=>?_)
     ·by_cases hz:(ts (x - 1)).length=0
      ·have he:famV (ts (x - 1)) (bs (x - 1)) = .nils:=by unfold famV;rw [if_pos hz]
       simp (maxSteps:=9^9) (disch:=first|assumption|decide|omega) only [go_sem,z3,t2,t3,t5,t6,t17,t18,ld_blk q2',ld_blk hTb,hTb,he]
       refine ⟨nc - (i+1),by omega,i+1,updF ts (x - 1) (ts (x - 1) ++ [⟨.ofNat i,true,ofQ ((Int.ofNat (p2/2 ^ min 6 16%9):Int):Rat)⟩]),updF bs (x - 1) (σ3.nxt+1+1),rfl,by omega,rfl,?_,?_,TI.push (i:=i) ⟨hT3.b,hT3.f,hT3.g,fun t ht=>?_,hT3.n,hT3.fr⟩ (by omega) (hgood true (p2/2 ^ min 6 16%9) (by omega)) ?_ ?_ ?_ ?_ ?_ ?_⟩
       ·exact q1'
       ·exact q2'
       ·exact hT.l t ht
       ·rw [hz,hset_get]
       ·rw [hset_ne _ _ _ _ (by omega),hset_get,hz];rfl
       ·intro b h1 h2 h3
        simp (disch:=omega) only [hset_ne]
       ·omega
       ·omega
       ·exact fr
      ·have he:=famV_pos (l:=ts (x - 1)) (by omega) (bs (x - 1))
       obtain ⟨k1,k2,k3⟩:=hT3.f.blk (x - 1) (by omega) (by omega)
       simp (maxSteps:=9^9) (disch:=first|assumption|decide|omega) only [go_sem,z3,t2,t3,t5,t6,t17,t18,ld_blk q2',ld_blk hTb,hTb,he,k1,hpt]
       refine ⟨nc - (i+1),by omega,i+1,updF ts (x - 1) (ts (x - 1) ++ [⟨.ofNat i,true,ofQ ((Int.ofNat (p2/2 ^ min 6 16%9):Int):Rat)⟩]),updF bs (x - 1) (σ3.nxt+1+1),rfl,by omega,rfl,?_,?_,TI.push (i:=i) ⟨hT3.b,hT3.f,hT3.g,fun t ht=>?_,hT3.n,hT3.fr⟩ (by omega) (hgood true (p2/2 ^ min 6 16%9) (by omega)) ?_ ?_ ?_ ?_ ?_ ?_⟩
       ·exact q1'
       ·exact q2'
       ·exact hT.l t ht
       ·rw [hset_get]
       ·rw [hset_ne _ _ _ _ (by omega),hset_get];rfl
       ·intro b h1 h2 h3
        have h3:=h3 (by omega)
        simp (disch:=first|assumption|omega) only [hset_ne,hdel_ne]
       ·omega
       ·omega
       ·exact fr
     ·by_cases hz:(ts (x - 1)).length=0
      ·have he:famV (ts (x - 1)) (bs (x - 1)) = .nils:=by unfold famV;rw [if_pos hz]
       simp (maxSteps:=9^9) (disch:=first|assumption|decide|omega) only [go_sem,z3,t2,t3,t5,t6,t17,t18,ld_blk q2',ld_blk hTb,hTb,he]
       refine ⟨nc - (i+1),by omega,i+1,updF ts (x - 1) (ts (x - 1) ++ [⟨.ofNat i,false,ofQ ((Int.ofNat (0):Int):Rat)⟩]),updF bs (x - 1) (σ3.nxt+1+1),rfl,by omega,rfl,?_,?_,TI.push (i:=i) ⟨hT3.b,hT3.f,hT3.g,fun t ht=>?_,hT3.n,hT3.fr⟩ (by omega) (hgood false (0) (by omega)) ?_ ?_ ?_ ?_ ?_ ?_⟩
       ·exact q1'
       ·exact q2'
       ·exact hT.l t ht
       ·rw [hz,hset_get]
       ·rw [hset_ne _ _ _ _ (by omega),hset_get,hz];rfl
       ·intro b h1 h2 h3
        simp (disch:=omega) only [hset_ne]
       ·omega
       ·omega
       ·exact fr
      ·have he:=famV_pos (l:=ts (x - 1)) (by omega) (bs (x - 1))
       obtain ⟨k1,k2,k3⟩:=hT3.f.blk (x - 1) (by omega) (by omega)
       simp (maxSteps:=9^9) (disch:=first|assumption|decide|omega) only [go_sem,z3,t2,t3,t5,t6,t17,t18,ld_blk q2',ld_blk hTb,hTb,he,k1,hpt]
       refine ⟨nc - (i+1),by omega,i+1,updF ts (x - 1) (ts (x - 1) ++ [⟨.ofNat i,false,ofQ ((Int.ofNat (0):Int):Rat)⟩]),updF bs (x - 1) (σ3.nxt+1+1),rfl,by omega,rfl,?_,?_,TI.push (i:=i) ⟨hT3.b,hT3.f,hT3.g,fun t ht=>?_,hT3.n,hT3.fr⟩ (by omega) (hgood false (0) (by omega)) ?_ ?_ ?_ ?_ ?_ ?_⟩
       ·exact q1'
       ·exact q2'
       ·exact hT.l t ht
       ·rw [hset_get]
       ·rw [hset_ne _ _ _ _ (by omega),hset_get];rfl
       ·intro b h1 h2 h3
        have h3:=h3 (by omega)
        simp (disch:=first|assumption|omega) only [hset_ne,hdel_ne]
       ·omega
       ·omega
       ·exact fr
  ·have:i=nc:=by omega
   subst this
   simp (maxSteps:=9^9) (disch:=first|assumption|decide|omega) only [go_sem,z3,true_and]
   exact ⟨ts,bs,t2,t3,t5,q1,q2,hT⟩
 ·rintro _ tm σ' ⟨rfl,ts,bs,t2,t3,t5,q1,q2,hT⟩
  have hF:=hT.fr
  have hle:=hT.fr.le
  have hn:=hT.n
  have hTb:=hT.b
  have hr0:=div_le' p0 8 65535 b0
  have hr1:=div_le' p0 32 65535 b0
  have hr2:=div_le' p0 96 65535 b0
  show RunX EN (.seq _ _) _ _ _
  refine run_mid (fun tm σ3=>∃ ts bs i2,i2≤nc+1∧Tr.getV tm 2 = .c (.ptr σ.nxt 0)∧Tr.getV tm 5 = .c (.sl (σ.nxt+1+1) 0 3 (.ex 3))∧σ3.h σ.nxt=some ⟨[x1,x2,x3,C,A],none⟩∧TI σ σ3 (σ.nxt+1+1) i2 nc al ts bs) ?_ ?_
  ·simp (maxSteps:=9^9) (disch:=first|assumption|decide|omega) only [go_sem,z3,t2,t3,t5,ld_blk q2]
   refine ifV_dec (fun hcap=>?_) (fun hcap=>?_)
   ·generalize hx:p0/32%3=x at *
    have hx3:x<3:=by omega
    have hkn:=famV_kn (ts x) (bs x)
    have hpl:=prt_len (ts x)
    have hpt:=prt_take (ts x)
    have hxl:=hT.l x hx3
    have hgood:GoodP nc al ⟨-1,true,ofQ ((Int.ofNat (p0/96%7):Int):Rat)⟩:=⟨.inl ⟨rfl,rfl⟩,_,by omega,rfl⟩
    by_cases hz:(ts x).length=0
    ·have he:famV (ts x) (bs x) = .nils:=by unfold famV;rw [if_pos hz]
     simp (maxSteps:=9^9) (disch:=first|assumption|decide|omega) only [go_sem,z3,t2,t3,t5,hx,ld_blk q2,ld_blk hTb,hTb,he]
     refine ⟨updF ts x (ts x ++ [⟨-1,true,ofQ ((Int.ofNat (p0/96%7):Int):Rat)⟩]),updF bs x (σ'.nxt+1),nc+1,by omega,q1,TI.push hT hx3 hgood ?_ ?_ ?_ ?_ ?_ ?_⟩
     ·rw [hz,hset_get]
     ·rw [hset_ne _ _ _ _ (by omega),hset_get,hz];rfl
     ·intro b h1 h2 h3
      simp (disch:=omega) only [hset_ne]
     ·omega
     ·omega
     ·exact fr
    ·have he:=famV_pos (l:=ts x) (by omega) (bs x)
     obtain ⟨k1,k2,k3⟩:=hT.f.blk x hx3 (by omega)
     simp (maxSteps:=9^9) (disch:=first|assumption|decide|omega) only [go_sem,z3,t2,t3,t5,hx,ld_blk q2,ld_blk hTb,hTb,he,k1,hpt]
     refine ⟨updF ts x (ts x ++ [⟨-1,true,ofQ ((Int.ofNat (p0/96%7):Int):Rat)⟩]),updF bs x (σ'.nxt+1),nc+1,by omega,q1,TI.push hT hx3 hgood ?_ ?_ ?_ ?_ ?_ ?_⟩
     ·rw [hset_get]
     ·rw [hset_ne _ _ _ _ (by omega),hset_get];rfl
     ·intro b h1 h2 h3
      have h3:=h3 (by omega)
      simp (disch:=first|assumption|omega) only [hset_ne,hdel_ne]
     ·omega
     ·omega
     ·exact fr
   ·simp (maxSteps:=9^9) (disch:=first|assumption|decide|omega) only [go_sem,z3,true_and]
    exact ⟨ts,bs,nc,by omega,t2,t5,q1,hT⟩
  ·rintro tm σ3 ⟨ts,bs,i2,hi2,t2,t5,q1,hT⟩
   have hF:=hT.fr
   have hle:=hT.fr.le
   have hn:=hT.n
   obtain ⟨T,hT1,hT2⟩:=hA
   have hTk : ∀ j,j<al.length→(T j).kn=true:=fun j hj=>by
    obtain ⟨b,o,c,e,-,hld⟩:=hT1.pos (by omega)
    exact (ld_one (hld j hj)).2
   have hal:=hl.1
   have hAk:=hT1.kn
   by_cases h0:al.length=0
   ·have hA0:A = .nils∨∃ b o c,A = .sl b o 0 c:=by
     rcases hT1 with ⟨-,e⟩|⟨b,o,c,e,-⟩
     ·exact .inl e
     ·exact .inr ⟨b,o,c,by rw [e,h0]⟩
    have hfin : ∀ h' : Tr Bk,h' = hset (hset σ3.h σ3.nxt ⟨[.sl (σ.nxt+1+1) 0 3 (.ex 3)],none⟩) (σ3.nxt+1) ⟨[.sl (σ.nxt+1+1) 0 3 (.ex 3)],some (1,82)⟩→(∃ rv a,V.c (.sl (σ3.nxt+1) 0 1 .opn) = .c rv∧HAgrs (fun b=>p b∨σ.nxt≤b∧b<σ3.nxt+1+1) h' rv (al ++ [a])∧a.length=3∧∀ t,t<3→GoodT nc al (ix a t)∧(ix a t).length≤nc+1)∧Fr σ ⟨h',σ3.nxt+1+1⟩:=fun h' e=>by
     subst e
     have:=agree_end (rb:=σ3.nxt+1) (n':=σ3.nxt+1+1) (h':=hset (hset σ3.h σ3.nxt ⟨[.sl (σ.nxt+1+1) 0 3 (.ex 3)],none⟩) (σ3.nxt+1) ⟨[.sl (σ.nxt+1+1) 0 3 (.ex 3)],some (1,82)⟩) hW hT2 hTk hT hi2 (by omega) (by rw [hset_get,h0];rfl) (fun b9 h9=>by simp (disch:=omega) only [hset_ne]) (by omega) (by omega) (fr)
     rw [h0] at this
     exact this
    rcases hA0 with rfl|⟨b,o,c,rfl⟩
    ·simp (maxSteps:=9^9) (disch:=first|assumption|decide|omega) only [go_sem,z3,t2,t5,ld_blk q1,h1,h2,h3,h4,hAk]
     exact hfin _ rfl
    ·simp (maxSteps:=9^9) (disch:=first|assumption|decide|omega) only [go_sem,z3,t2,t5,ld_blk q1,h1,h2,h3,h4,hAk]
     exact hfin _ rfl
   ·obtain ⟨b,o,c,rfl,-,hld⟩:=hT1.pos (by omega)
    have hbl:=hW.ld_lt (hld 0 (by omega))
    obtain ⟨kk,e1,e2,e3,e4,e5⟩:=blk_of_ld (by omega) fun i hi=>hF.ld hW (hld i hi)
    simp (maxSteps:=9^9) (disch:=first|assumption|decide|omega) only [go_sem,z3,t2,t5,ld_blk q1,h1,h2,h3,h4,hAk,e1,e3,e4,e5,e2]
    refine agree_end hW hT2 hTk hT hi2 (by omega) ?_ ?_ (by omega) (by omega) ?_
    ·rw [hset_get,cel_take (e:=1) (G:=fun i=>[T i]) (fun _=>rfl),cel_snoc]
     congr 2
     refine cel_congr fun j hj=>?_
     unfold updG
     by_cases e:j=al.length
     ·rw [if_pos e,if_neg (by omega)]
     ·rw [if_neg e,if_pos (by omega)]
    ·intro b9 h9
     simp (disch:=omega) only [hset_ne,hdel_ne]
    ·exact fr
end Go.Proofs.Xe
