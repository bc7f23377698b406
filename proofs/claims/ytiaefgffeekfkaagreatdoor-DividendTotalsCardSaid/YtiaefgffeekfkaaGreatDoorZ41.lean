/- The executor, run by the kernel: fractions and natural numbers as numbers; the contracts of the program's functions on them. -/
import Derived.Test.YtiaefgffeekfkaaGreatDoorZ40
import Derived.Test.YtiaefgffeekfkaaGreatDoorZ39
set_option linter.unusedSimpArgs false
set_option linter.unusedVariables false
set_option maxHeartbeats 8000000
namespace Go.Proofs.Xe
open Go.RowKit Go.Proofs.Ins
structure LenE (k:Nat) (e:Est):Prop where
 c:e.c.length≤k
 a:e.a.length≤k
 t : ∀ j,j<e.a.length→(ix e.a j).length≤k
 p : ∀ j t,j<e.a.length→t<(ix e.a j).length→(ix (ix e.a j) t).length≤k
structure LenG (k:Nat) (g:Grp):Prop where
 e : ∀ i,i<g.e.length→LenE k (ix g.e i)
 n:g.e.length≤k
 d:g.d.length≤k
 l : ∀ j,j<g.d.length→(ix g.d j).l.length≤k
theorem LenE.up {k l:Nat} {e:Est} (h:LenE k e) (hk:k≤l):LenE l e:=⟨Nat.le_trans h.c hk,Nat.le_trans h.a hk,fun j hj=>Nat.le_trans (h.t j hj) hk,fun j t hj ht=>Nat.le_trans (h.p j t hj ht) hk⟩
theorem LenG.up {k l:Nat} {g:Grp} (h:LenG k g) (hk:k≤l):LenG l g:=⟨fun i hi=>(h.e i hi).up hk,Nat.le_trans h.n hk,Nat.le_trans h.d hk,fun j hj=>Nat.le_trans (h.l j hj) hk⟩
structure Built (σ σ' : St) (ev dv:B) (g:Grp):Prop where
 hg:HGrp (fun b=>σ.nxt≤b∧b<σ'.nxt) σ'.h ev dv g
 s:SmallG 1000000 g
 n:g.e.length≤4
 c : ∀ i,i<g.e.length→(ix g.e i).c.length≤6
 z:SzG g
 fr:Fr σ σ'
 l:LenG 8 g
theorem amt_fit (x:Nat):(ofQ (amt x)).fits 1000:=ofQ_fits ((amt_small x).mono (by omega))
theorem whole_fit {w:Nat} (h:w≤16):(ofQ ((Int.ofNat w:Int):Rat)).fits 1000:=ofQ_fits ((xsm_int (k:=3) (by show w<16777216; omega) (by decide)).mono (by omega))
theorem fits_le {r:R3} {k l:Nat} (h:r.fits k) (hkl:k≤l):r.fits l:=⟨Nat.le_trans h.1 hkl,Nat.le_trans h.2 hkl⟩
theorem OGrp.built {σ σ' : St} {dv:B} {n eb:Nat} {m:Nat→Rat} {cl:Nat→List C5} {bs:Nat→Nat} {A:Nat→B} {al:Nat→List Agr} {dl:List Dbt} {lo hi:Nat} (hg:OGrp σ'.h dv n eb m cl bs A al dl lo hi) (hn:n≤4) (hlo:σ.nxt≤lo) (hhi:hi≤σ'.nxt) (hm : ∀ i,i<n→∃ v,m i=amt v) (hc : ∀ i,i<n→(cl i).length≤6∧∀ k,k<(cl i).length→∃ v,(ix (cl i) k).a=ofQ (amt v))
  (ha : ∀ i,i<n→GoodA (cl i).length (al i)) (hd:dl.length≤3∧∀ j,j<dl.length→(ix dl j).l.length≤4∧∃ v,(ix dl j).w=ofQ (amt v)) (hf:Fr σ σ'):Built σ σ' (.sl eb 0 n .opn) dv ⟨estsOf n m cl al,dl⟩:=by
 have hlen:(estsOf n m cl al).length=n:=estsOf_len ..
 refine ⟨(hg.grp .opn).keep (fun _ _=>rfl) fun b hb=>⟨by have:=hb.1; omega,by have:=hb.2; omega⟩,⟨fun i hi=>?_,fun i hi=>?_,by show _≤_; rw [hlen]; omega,by show dl.length≤_; have:=hd.1; omega,fun i hi=>by have:=(hd.2 i hi).1; show (ix dl i).l.length≤_; omega⟩,by show _≤_; rw [hlen]; exact hn,fun i hi=>?_,fun i hi k hk=>?_,hf,⟨fun i hi=>?_,by show _≤_; rw [hlen]; omega,by show dl.length≤_; have:=hd.1; omega,fun j hj=>by have:=(hd.2 j hj).1; show (ix dl j).l.length≤_; omega⟩⟩
 ·have hi:i<n:=by rw [← hlen]; exact hi
  show SmallE _ (ix (estsOf n m cl al) i)
  rw [estsOf_ix m cl al hi]
  obtain ⟨a1,a2⟩:=ha i hi
  refine ⟨?_,fun k hk=>?_,fun j t p hj ht hp=>?_,by show (cl i).length≤_; have:=(hc i hi).1; omega,by show (al i).length≤_; omega,fun j hj=>by have:=(a2 j hj).1; show (ix (al i) j).length≤_; omega,fun j t hj ht=>?_⟩
  ·obtain ⟨v,e⟩:=hm i hi
   show (ofQ (m i)).fits _
   rw [e]; exact fits_le (amt_fit v) (by omega)
  ·obtain ⟨v,e⟩:=(hc i hi).2 k hk
   rw [e]; exact fits_le (amt_fit v) (by omega)
  ·have hj:j<(al i).length:=hj
   have ht:t<(ix (al i) j).length:=ht
   obtain ⟨w,hw,e⟩:=(((a2 j hj).2 t (by have:=(a2 j hj).1; omega)).1 p hp).2
   rw [e]; exact fits_le (whole_fit hw) (by omega)
  ·have hj:j<(al i).length:=hj
   have ht:t<(ix (al i) j).length:=ht
   have h9:=((a2 j hj).2 t (by have:=(a2 j hj).1; omega)).2
   have:=(hc i hi).1
   show (ix (ix (al i) j) t).length≤_
   omega
 ·obtain ⟨-,v,e⟩:=hd.2 i hi
  rw [e]; exact fits_le (amt_fit v) (by omega)
 ·have hi:i<n:=by rw [← hlen]; exact hi
  show (ix (estsOf n m cl al) i).c.length≤6
  rw [estsOf_ix m cl al hi]; exact (hc i hi).1
 ·have hi:i<n:=by rw [← hlen]; exact hi
  have hk:k<(ix (estsOf n m cl al) i).c.length:=hk
  show (ix (ix (estsOf n m cl al) i).c k).a.s.size+(ix (ix (estsOf n m cl al) i).c k).a.d.size≤_∧Sz (ix (ix (estsOf n m cl al) i).c k).a.q
  rw [estsOf_ix m cl al hi] at hk ⊢
  obtain ⟨v,e⟩:=(hc i hi).2 k hk
  show (ix (cl i) k).a.s.size+(ix (cl i) k).a.d.size≤_∧Sz (ix (cl i) k).a.q
  rw [e,ofQ_q]
  exact ⟨(amt_sz v).two,amt_sz v⟩
 ·have hi:i<n:=by rw [← hlen]; exact hi
  show LenE 8 (ix (estsOf n m cl al) i)
  rw [estsOf_ix m cl al hi]
  obtain ⟨a1,a2⟩:=ha i hi
  have hc6:=(hc i hi).1
  refine ⟨by show (cl i).length≤_; omega,by show (al i).length≤_; omega,fun j hj=>by have:=(a2 j hj).1; show (ix (al i) j).length≤_; omega,fun j t hj ht=>?_⟩
  have hj:j<(al i).length:=hj
  have ht:t<(ix (al i) j).length:=ht
  have:=((a2 j hj).2 t (by have:=(a2 j hj).1; omega)).2
  show (ix (ix (al i) j) t).length≤_
  omega
theorem SmallG.up {k l:Nat} {g:Grp} (h:SmallG k g) (hk:k≤l):SmallG l g :=
 ⟨fun i hi=>⟨fits_le (h.e i hi).m hk,fun j hj=>fits_le ((h.e i hi).c j hj) hk,fun a b c ha hb hc=>fits_le ((h.e i hi).a a b c ha hb hc) hk,(h.e i hi).lc,(h.e i hi).la,(h.e i hi).lt,(h.e i hi).lp⟩,fun i hi=>fits_le (h.w i hi) hk,h.le,h.ld,h.ll⟩
def grossL (ns:Nat→Nat) (M:Nat→Nat→Nat) (i:Nat):List (List Rat):=(List.range i).map fun j=>(List.range (min (ns j) 8)).map fun k=>amt (M j k)
theorem grossL_len (ns:Nat→Nat) (M:Nat→Nat→Nat) (i:Nat):(grossL ns M i).length=i:=by unfold grossL; simp
theorem ix_map_range {α:Type} [Inhabited α] (f:Nat→α) {n i:Nat} (h:i<n):ix ((List.range n).map f) i=f i:=by
 rw [ix_lt (by simpa using h)]; simp
theorem grossL_ix (ns:Nat→Nat) (M:Nat→Nat→Nat) {n i:Nat} (h:i<n):ix (grossL ns M n) i=(List.range (min (ns i) 8)).map fun k=>amt (M i k):=ix_map_range _ h
theorem grossL_szT (ns:Nat→Nat) (M:Nat→Nat→Nat) (n:Nat):SzT (grossL ns M n):=fun i hi k hk=>by
 rw [grossL_len] at hi
 rw [grossL_ix ns M hi] at hk ⊢
 have hk:k<min (ns i) 8:=by simpa using hk
 rw [ix_map_range _ hk]
 exact amt_sz _
structure GR (C:B→List B) (σ σ' : St) (t12 i:Nat) (gvv:B) (R:Nat→B) (ns:Nat→Nat) (M:Nat→Nat→Nat):Prop where
 b:σ'.h t12=some ⟨C gvv,none⟩
 v:(i=0∧gvv = .nils)∨∃ b,gvv = .sl b 0 i .opn∧0<i∧σ'.h b=some ⟨ones i R,some (1,32)⟩∧t12+1≤b∧b<σ'.nxt∧∀ j,j<i→HLp (fun x=>t12+1≤x∧x<b) σ'.h 3 (R j) (min (ns j) 8) fun k=>ratC (amt (M j k))
 nx:t12+1≤σ'.nxt
 fr:Fr σ σ'
theorem GR.tab {C:B→List B} {σ σ' : St} {t12 i:Nat} {gvv:B} {R:Nat→B} {ns:Nat→Nat} {M:Nat→Nat→Nat} (hG:GR C σ σ' t12 i gvv R ns M):HTab (fun _=>True) σ'.h gvv (grossL ns M i):=by
 refine ⟨R,?_,fun j hj=>?_⟩
 ·rw [grossL_len]
  rcases hG.v with ⟨h1,h2⟩ | ⟨b,rfl,h0,h1,h2,h3,h4⟩
  ·exact .inl ⟨h1,h2⟩
  ·have h1:σ'.h b=some ⟨celR i (fun j=>[R j]),some (1,32)⟩:=h1
   exact cel_hlp _ h1 rfl trivial (fun _=>rfl) (by decide) fun j hj=>by simp only [List.all_cons,List.all_nil,(h4 j hj).kn,Bool.and_self]
 ·rw [grossL_len] at hj
  rcases hG.v with ⟨h1,h2⟩ | ⟨b,rfl,h0,h1,h2,h3,h4⟩
  ·omega
  ·rw [grossL_ix ns M hj]
   have hl:((List.range (min (ns j) 8)).map fun k=>amt (M j k)).length=min (ns j) 8:=by simp
   rw [hl]
   exact ((h4 j hj).keep (fun _ _=>rfl) fun _ _=>trivial).congr fun k hk=>by rw [ix_map_range _ hk]
theorem GR.push {C:B→List B} {σ σ' σ3:St} {t12 i:Nat} {gvv:B} {R:Nat→B} {ns:Nat→Nat} {M:Nat→Nat→Nat} (hG:GR C σ σ' t12 i gvv R ns M) (hf:Fr σ' σ3) {rv:B} (hr:OwnL σ3.h rv (min (ns i) 8) (fun k=>ratC (amt (M i k))) 3 71 σ'.nxt σ3.nxt) {h' : Tr Bk} {nx n' : Nat}
  (hb:h' t12=some ⟨C (.sl nx 0 (i+1) .opn),none⟩) (hx:h' nx=some ⟨ones i R ++ [rv],some (1,32)⟩) (ho : ∀ b,t12+1≤b→b<σ3.nxt→(∀ c n k,gvv = .sl c 0 n k→b≠c)→h' b=σ3.h b) (hn:σ3.nxt≤nx) (hn' : nx<n') (hfr:Fr σ ⟨h',n'⟩) :
  GR C σ ⟨h',n'⟩ t12 (i+1) (.sl nx 0 (i+1) .opn) (updF R i rv) ns M:=by
 have hn0:=hG.nx
 have hle:=hf.le
 refine ⟨hb,.inr ⟨nx,rfl,by omega,?_,by omega,hn',fun j hj=>?_⟩,by show _≤n'; omega,hfr⟩
 ·show h' nx=_
  rw [hx,ones_snoc]
 ·show HLp _ h' 3 _ _ _
  by_cases e:j=i
  ·subst e
   rw [updF_same]
   refine (hr.hlp (p:=fun b=>σ'.nxt≤b∧b<σ3.nxt) (fun _=>rfl) (by decide) (fun _ _=>rfl) fun b h1 h2=>⟨h1,h2⟩).keep (fun b hb=>ho b (by omega) hb.2 fun c n k e2=>?_) fun b hb=>⟨by omega,by omega⟩
   rcases hG.v with ⟨-,h2⟩ | ⟨b',h2,-,-,-,h3,-⟩
   ·rw [h2] at e2; cases e2
   ·rw [h2] at e2; cases e2; omega
  ·rw [updF_ne _ _ _ _ e]
   rcases hG.v with ⟨h1,h2⟩ | ⟨b',h2,-,-,-,h3,h4⟩
   ·omega
   ·refine ((h4 j (by omega)).keep (fun b hb=>hf.old b (by omega)) fun _ h=>h).keep (fun b hb=>ho b hb.1 (by omega) fun c n k e2=>?_) fun b hb=>⟨hb.1,by omega⟩
    rw [h2] at e2; cases e2; omega
theorem ones_len' (n:Nat) (g:Nat→B):n*1≤(ones n g).length:=by rw [ones_len]; exact Nat.le_refl _
theorem grossL_smT (ns:Nat→Nat) (M:Nat→Nat→Nat) (n:Nat):SmT (grossL ns M n):=fun i k=>by
 have h0:Sm 4 (0:Rat):=(xsm_int (i:=0) (k:=3) (by decide) (by decide)).mono (by omega)
 unfold paidQ
 split
 ·next h =>
  rw [grossL_len] at h
  split
  ·next h2 =>
   rw [grossL_ix ns M h] at h2 ⊢
   have h2:k<min (ns i) 8:=by simpa using h2
   rw [ix_map_range _ h2]
   exact amt_small _
  ·exact h0
 ·exact h0
theorem tot_hlp {σ' : St} {g:Grp} {L:List (List Rat)} {lo:Nat} {ov:B} (hO:OwnL σ'.h ov (rightsL g).length (fun k=>ratC (totR g L k)) 3 71 lo σ'.nxt):HLp (fun _=>True) σ'.h 3 ov (rightsL g).length fun k=>ratC (totR g L k) :=
 hO.hlp (fun _=>rfl) (by decide) (fun _ _=>rfl) fun _ _ _=>trivial
set_option maxRecDepth 10000 in
theorem law_totals_x {σ:St} (hW:WF σ) (haw:AwakeOk 23) {nm ncash nl nd ng:Nat} (hnm:nm≤255) {cv lv dv gv:B} (M:Nat→Nat) (L D:Nat→Nat→Nat) (hcv:HL σ.h 1 cv ncash fun i=>[.int .u16 (.ofNat (M i))]) (hM : ∀ i,i<ncash→M i≤65535)
  (hlv:HL σ.h 4 lv nl fun i=>[.int .u16 (.ofNat (L i 0)),.int .u16 (.ofNat (L i 1)),.int .u16 (.ofNat (L i 2)),.int .u16 (.ofNat (L i 3))]) (hL : ∀ i j,i<nl→L i j≤65535) (hnl:nl≤9223372036854775806)
  (hdv:HL σ.h 3 dv nd fun i=>[.int .u16 (.ofNat (D i 0)),.int .u16 (.ofNat (D i 1)),.int .u16 (.ofNat (D i 2))]) (hD : ∀ i j,i<nd→D i j≤65535) (hnd:nd≤9223372036854775806)
  (R:Nat→B) (ns:Nat→Nat) (G:Nat→Nat→Nat) (hgv:HL σ.h 1 gv ng fun i=>[R i]) (hR : ∀ i,i<ng→HL σ.h 1 (R i) (ns i) fun k=>[.int .u16 (.ofNat (G i k))]) (hG : ∀ i,i<ng→∀ k,k<ns i→G i k≤65535) (hng:ng≤9223372036854775806) :
  CallX EN 6 [.c (.int .u8 (.ofNat nm)),.c cv,.c lv,.c dv,.c gv] σ fun r σ'=>r = .c (.bool true):=by
 refine call_fn (O_l23_DividendTotals _ _) F_l23_DividendTotals ?_
 unfold a_l23_DividendTotals
 have hlenG:=hgv.len
 have hAw:=fun (σ:St) (K:V→St→Prop)=>x_awake23 (E:=EN) (σ:=σ) (K:=K) haw
 simp (config:={ maxSteps:=1000000 }) (disch:=first | assumption | decide | omega) only [go_sem,z3,hlenG,lt_ofNat]
 refine ifV_dec (fun h5=>?_) (fun h5=>?_)
 ·simp (config:={ maxSteps:=1000000 }) (disch:=first | assumption | decide | omega) only [go_sem,z3,hAw]
 ·simp (config:={ maxSteps:=1000000 }) (disch:=first | assumption | decide | omega) only [go_sem,z3]
  have hnil:HL σ.h 3 .nils 0 fun i=>[.int .u16 (.ofNat 0),.int .u16 (.ofNat 0),.int .u16 (.ofNat 0)]:=.inl ⟨rfl,rfl⟩
  refine (group_x hW hnm M L (fun _ _=>0) D hcv hM hlv hL hnl hnil (fun i j hi=>by omega) (by omega) hdv hD hnd).mono ?_
  rintro _ σ2 ⟨eb,dv',m,cl,bs,A,al,dl,rfl,hI⟩
  have hF:=hI.fr
  have hle:=hF.le
  have hn4:1+nm%4≤4:=by omega
  have hB:=hI.g.built hn4 (show σ.nxt≤σ.nxt+1+1 by omega) (Nat.le_refl _) hI.m (fun i hi=>⟨(hI.c i hi).1,fun k hk=>((hI.c i hi).2 k hk).2.2⟩) hI.a hI.d hF
  generalize (⟨estsOf (1+nm%4) m cl al,dl⟩:Grp)=g at hB
  clear hI
  generalize (B.sl eb 0 (1+nm%4) Cap.opn)=ev at *
  have hek:=hB.hg.e.kn
  have hdk:=hB.hg.d.kn
  simp (config:={ maxSteps:=1000000 }) (disch:=first | assumption | decide | omega) only [go_sem,z3,hek,hdk]
  refine RunX.mono (Q:=fun e tm σ'=>e = .exit 0∧∃ gvv R',Tr.getV tm 11 = .c (.ptr σ2.nxt 0)∧Tr.getV tm 12 = .c (.ptr (σ2.nxt+1) 0)∧σ'.h σ2.nxt=some ⟨[ev,dv'],none⟩∧GR (fun v=>[.nils,.nils,.nils,.nils,v,.nils,.nils,.nils]) σ2 σ' (σ2.nxt+1) ng gvv R' ns G)
   (run_loop (fun q tm σ'=>∃ i gvv R',q=ng - i∧i≤ng∧Tr.getV tm 4 = .c gv∧Tr.getV tm 11 = .c (.ptr σ2.nxt 0)∧Tr.getV tm 12 = .c (.ptr (σ2.nxt+1) 0)∧Tr.getV tm 13 = .c (.int .i64 (.ofNat i))∧σ'.h σ2.nxt=some ⟨[ev,dv'],none⟩∧GR (fun v=>[.nils,.nils,.nils,.nils,v,.nils,.nils,.nils]) σ2 σ' (σ2.nxt+1) i gvv R' ns G) ng ?_ ?_) ?_
  ·refine ⟨0,.nils,R,by omega,by omega,?_⟩
   simp (config:={ maxSteps:=1000000 }) (disch:=first | assumption | decide | omega) only [go_sem,z3,true_and]
   refine ⟨?_,.inl ⟨rfl,rfl⟩,?_,?_⟩
   ·rw [hset_get]
   ·show σ2.nxt+1+1≤σ2.nxt+1+1; omega
   ·have hFr:=Fr.refl hF.wf
    repeat (first | assumption | exact Fr.refl (by assumption) | exact Fr.up (by assumption) (by first | omega | (dsimp only; omega)) | exact Fr.up (Fr.refl (by assumption)) (by first | omega | (dsimp only; omega)) | refine Fr.set1 ?_ (by first | omega | (dsimp only; omega)) (by first | omega | (dsimp only; omega)) | refine Fr.del1 ?_ (by first | omega | (dsimp only; omega)) | refine Fr.newU ?_ (by first | omega | (dsimp only; omega)))
  ·rintro q tm σ' ⟨i,gvv,R',rfl,hi,t4,t11,t12,t13,q0,hG2⟩
   have hF2:=hG2.fr
   have hF3:=hF.trans hF2
   have hle2:=hF2.le
   have hnx:=hG2.nx
   have hb:=hG2.b
   simp (config:={ maxSteps:=1000000 }) (disch:=first | assumption | decide | omega) only [go_sem,z3,t4,t11,t12,t13,hlenG,lt_ofNat]
   refine ifV_dec (fun hlt=>?_) (fun hlt=>?_)
   ·obtain ⟨b,o,c,rfl,hld⟩:=hgv.one (by omega)
    have hld:=hF3.ld hW (hld i hlt)
    have hRk:=(hR i hlt).kn
    have hgk:gvv.kn=true:=by
     rcases hG2.v with ⟨-,rfl⟩ | ⟨b',rfl,-⟩ <;> rfl
    simp (config:={ maxSteps:=1000000 }) (disch:=first | assumption | decide | omega) only [go_sem,z3,t4,t11,t12,t13,hld,ld_blk hb,hgk,hRk]
    refine (amounts_x hF2.wf (G i) (R i) ((hR i hlt).fr hW hF3) (hG i hlt) 8 (by omega)).mono ?_
    rintro _ σ4 ⟨rv,rfl,hO,hf4⟩
    have hok:=hO.kn
    have hle4:=hf4.le
    have hF4:=hF2.trans hf4
    have hb4:=hf4.get hF2.wf hb
    have hld4:=hf4.ld hF2.wf hld
    rcases hG2.v with ⟨rfl,rfl⟩ | ⟨b',rfl,hi0,k1,k2,k3,k4⟩
    ·simp (config:={ maxSteps:=1000000 }) (disch:=first | assumption | decide | omega) only [go_sem,z3,t4,t11,t12,t13,hld4,ld_blk hb4,hb4,hok]
     refine ⟨ng - 1,by omega,1,_,_,rfl,by omega,rfl,hf4.get hF2.wf q0,hG2.push (nx:=σ4.nxt+1) hf4 hO ?_ ?_ ?_ (Nat.le_succ _) (Nat.lt_succ_self _) ?_⟩
     ·rw [hset_get]
     ·rw [hset_ne _ _ _ _ (by omega),hset_get]; rfl
     ·intro b9 h1 h2 _
      rw [hset_ne _ _ _ _ (by omega),hset_ne _ _ _ _ (by omega),hset_ne _ _ _ _ (by omega)]
     ·repeat (first | assumption | exact Fr.refl (by assumption) | exact Fr.up (by assumption) (by first | omega | (dsimp only; omega)) | exact Fr.up (Fr.refl (by assumption)) (by first | omega | (dsimp only; omega)) | refine Fr.set1 ?_ (by first | omega | (dsimp only; omega)) (by first | omega | (dsimp only; omega)) | refine Fr.del1 ?_ (by first | omega | (dsimp only; omega)) | refine Fr.newU ?_ (by first | omega | (dsimp only; omega)))
    ·have k1':=hf4.get hF2.wf k1
     have hol:=ones_len' i R'
     simp (config:={ maxSteps:=1000000 }) (disch:=first | assumption | decide | omega) only [go_sem,z3,t4,t11,t12,t13,hld4,ld_blk hb4,hb4,hok,k1']
     refine ⟨ng - (i+1),by omega,i+1,_,_,rfl,by omega,rfl,hf4.get hF2.wf q0,hG2.push (nx:=σ4.nxt+1) hf4 hO ?_ ?_ ?_ (Nat.le_succ _) (Nat.lt_succ_self _) ?_⟩
     ·rw [hset_get]
     ·rw [hset_ne _ _ _ _ (by omega),hset_get,ones_snoc]
     ·intro b9 h1 h2 h3
      have h3:=h3 _ _ _ rfl
      rw [hset_ne _ _ _ _ (by omega),hset_ne _ _ _ _ (by omega),hdel_ne _ _ _ (by omega),hset_ne _ _ _ _ (by omega)]
     ·repeat (first | assumption | exact Fr.refl (by assumption) | exact Fr.up (by assumption) (by first | omega | (dsimp only; omega)) | exact Fr.up (Fr.refl (by assumption)) (by first | omega | (dsimp only; omega)) | refine Fr.set1 ?_ (by first | omega | (dsimp only; omega)) (by first | omega | (dsimp only; omega)) | refine Fr.del1 ?_ (by first | omega | (dsimp only; omega)) | refine Fr.newU ?_ (by first | omega | (dsimp only; omega)))
   ·have:i=ng:=by omega
    subst this
    simp (config:={ maxSteps:=1000000 }) (disch:=first | assumption | decide | omega) only [go_sem,z3,true_and]
    exact ⟨gvv,R',t11,t12,q0,hG2⟩
  ·rintro _ tm σ' ⟨rfl,gvv,R',t11,t12,q0,hG2⟩
   have hF2:=hG2.fr
   have hle2:=hF2.le
   have hb:=hG2.b
   have hnx:=hG2.nx
   have hgk:gvv.kn=true:=by
    rcases hG2.v with ⟨-,rfl⟩ | ⟨b',rfl,-⟩ <;> rfl
   have hgr:HGrp (fun b=>σ.nxt≤b∧b<σ2.nxt) σ'.h ev dv' g:=hB.hg.keep (fun b hb=>hF2.old b hb.2) fun _ h=>h
   have hs:=SmallG.up hB.s (show 1000000≤134217728 by decide)
   have hSm:=grossL_smT ns G ng
   have hSz:=grossL_szT ns G ng
   have hT:=hG2.tab
   generalize grossL ns G ng=T at *
   simp (config:={ maxSteps:=1000000 }) (disch:=first | assumption | decide | omega) only [go_sem,z3,t11,t12,ld_blk q0,hek,hdk,ld_blk hb,hgk,hAw]
   refine (dtotals_x hF2.wf g hgr hs T hT hSz hSm rfl rfl rfl rfl rfl rfl rfl).mono ?_
   rintro r σ4 ⟨hv4,hf4⟩
   have q04:=hf4.get hF2.wf q0
   have hb4:=hf4.get hF2.wf hb
   have hgr4:=hgr.fr hF2.wf hf4
   have hT4:=hT.fr hF2.wf hf4
   rcases hv4 with ⟨hc,rfl⟩ | ⟨hc,ov,rfl,hO⟩
   ·have hcc:decide (chkG g=chkG g)=true:=decide_eq_true rfl
    simp (config:={ maxSteps:=1000000 }) (disch:=first | assumption | decide | omega) only [go_sem,z3,t11,t12,ld_blk q04,hek,hdk,ld_blk hb4,hgk]
    refine (rTotals_x hf4.wf g hgr4 hs T hT4 hSz hSm rfl rfl rfl rfl rfl rfl rfl).mono ?_
    rintro r σ5 ⟨hv5,hf5⟩
    rcases hv5 with ⟨-,rfl⟩ | ⟨hc5,-⟩
    ·simp (config:={ maxSteps:=1000000 }) (disch:=first | assumption | decide | omega) only [go_sem,z3,hAw,hcc]
     refine (samerats_x (p:=fun _=>True) (p':=fun _=>True) hf5.wf (n:=0) (fun _=>0) HLp.nil HLp.nil (by omega)).mono ?_
     rintro _ σ6 ⟨rfl,-⟩
     simp (config:={ maxSteps:=1000000 }) (disch:=first | assumption | decide | omega) only [go_sem,z3,true_and]
    ·exact absurd hc5 hc
   ·have hok:=hO.kn
    simp (config:={ maxSteps:=1000000 }) (disch:=first | assumption | decide | omega) only [go_sem,z3,t11,t12,ld_blk q04,hek,hdk,ld_blk hb4,hgk,hok]
    refine (rTotals_x hf4.wf g hgr4 hs T hT4 hSz hSm rfl rfl rfl rfl rfl rfl rfl).mono ?_
    rintro r σ5 ⟨hv5,hf5⟩
    rcases hv5 with ⟨hc5,-⟩ | ⟨-,ov5,rfl,hO5⟩
    ·exact absurd hc hc5
    ·have hok5:=hO5.kn
     have hRl:(rightsL g).length≤1000000:=by
      have h9:(rightsL g).length≤192+g.d.length:=rtD_len (chkG_valid hc) g.d.length
      have:=(chkG_valid hc).nd
      omega
     simp (config:={ maxSteps:=1000000 }) (disch:=first | assumption | decide | omega) only [go_sem,z3,hAw,hok,hok5]
     refine (samerats_x hf5.wf _ ((tot_hlp hO).fr hf4.wf hf5) (tot_hlp hO5) hRl).mono ?_
     rintro _ σ6 ⟨rfl,-⟩
     simp (config:={ maxSteps:=1000000 }) (disch:=first | assumption | decide | omega) only [go_sem,z3,true_and]
end Go.Proofs.Xe
namespace Go.Proofs.Xe
open Go.Proofs
theorem c_l23_DividendTotals:impF Tryz.prog 6 a_l23_DividendTotals=true:=by kernel_rfl
theorem c_l0_Amounts:impF Tryz.prog 11 a_l0_Amounts=true:=by kernel_rfl
theorem c_l0_Group:impF Tryz.prog 20 a_l0_Group=true:=by kernel_rfl
theorem c_dividend_Totals:impF Tryz.prog 25 a_dividend_Totals=true:=by kernel_rfl
theorem c_r21_Totals:impF Tryz.prog 26 a_r21_Totals=true:=by kernel_rfl
theorem c_r1_SameRats:impF Tryz.prog 27 a_r1_SameRats=true:=by kernel_rfl
theorem c_r21_paid:impF Tryz.prog 39 a_r21_paid=true:=by kernel_rfl
theorem c_l0_agree:impF Tryz.prog 48 a_l0_agree=true:=by kernel_rfl
theorem c_l0_owe:impF Tryz.prog 49 a_l0_owe=true:=by kernel_rfl
theorem c_dividend_rights:impF Tryz.prog 51 a_dividend_rights=true:=by kernel_rfl
theorem c_r21_rights:impF Tryz.prog 52 a_r21_rights=true:=by kernel_rfl
theorem c_dividend_totals:impF Tryz.prog 54 a_dividend_totals=true:=by kernel_rfl
theorem c_r21_totals:impF Tryz.prog 55 a_r21_totals=true:=by kernel_rfl
theorem c_l0_free:impF Tryz.prog 85 a_l0_free=true:=by kernel_rfl
theorem c_l0_taken:impF Tryz.prog 86 a_l0_taken=true:=by kernel_rfl
theorem c_r17_FindLeg:impF Tryz.prog 89 a_r17_FindLeg=true:=by kernel_rfl
theorem c_dividend_net:impF Tryz.prog 92 a_dividend_net=true:=by kernel_rfl
theorem c_r17_leg:impF Tryz.prog 134 a_r17_leg=true:=by kernel_rfl
theorem c_dividend_clean:impF Tryz.prog 142 a_dividend_clean=true:=by kernel_rfl
theorem fnT_ok:fnT.all (impF Tryz.prog)=true:=by
 simp only [fnT,FT.all,c_l23_DividendTotals,c_l0_Amounts,c_l0_Group,c_dividend_Totals,c_r21_Totals,c_r1_SameRats,c_r21_paid,c_l0_agree,c_l0_owe,c_dividend_rights,c_r21_rights,c_dividend_totals,c_r21_totals,c_l0_free,c_l0_taken,c_r17_FindLeg,c_dividend_net,c_r17_leg,c_dividend_clean,Bool.and_self]
theorem EN_ok:EnvOk Tryz.prog EN:=⟨fun _ _ hF=>FT.find_all fnT_ok hF,fun f args σ v σ' h=>orcA_ok f args σ v σ' h⟩
end Go.Proofs.Xe
namespace Go.Proofs.Xe
open Go.RowKit Go.Proofs.Ins
def fB {α:Sort _} (b:Bool) (f:Bool→α):α:=match b with | true=>f true | false=>f false
theorem fB_eq {α:Sort _} (b:Bool) (f:Bool→α):fB b f=f b:=by cases b <;> rfl
def dD (d:Nat):Nat:=bif Nat.beq d 0 then 1 else d
def sm (n:Nat):Bool:=Nat.ble (Nat.log2 n) 1990
def okT (n:Bool) (s d:Nat):Bool :=
 sm s && (sm d && (bif Nat.beq s 0 then !n && Nat.beq d 0 else Nat.beq d 0 || (!Nat.beq d 1 && Nat.beq (Nat.gcd s d) 1)))
theorem lt_pow_of_log {n k:Nat} (h:Nat.log2 n+1≤8*k):n<256 ^ k:=by
 have h2:n<2 ^ (Nat.log2 n+1):=Nat.lt_log2_self
 have h3:2 ^ (Nat.log2 n+1)≤2 ^ (8*k):=Nat.pow_le_pow_right (by omega) h
 have h4:(2:Nat) ^ (8*k)=256 ^ k:=Nat.pow_mul 2 8 k
 exact Nat.lt_of_lt_of_le h2 (Nat.le_trans h3 (Nat.le_of_eq h4))
theorem sm_lt {n:Nat} (h:sm n=true):n<256 ^ 250:=by
 have h1:Nat.log2 n≤1990:=Nat.le_of_ble_eq_true h
 exact lt_pow_of_log (by omega)
theorem sm_size {n:Nat} (h:sm n=true):(bn n).size≤250:=bn_size_le (sm_lt h)
theorem beq_iff' {a b:Nat} : Nat.beq a b=true↔a=b:=⟨Nat.eq_of_beq_eq_true,fun h=>by subst h; simp⟩
theorem dD_pos (d:Nat):0<dD d:=by
 unfold dD
 rw [bif_beq]
 split <;> omega
theorem okT_spec {n:Bool} {s d:Nat} (h:okT n s d=true):vld n (bn s) (bn d)∧(bn s).size≤250∧(bn d).size≤250∧(s=0→n=false):=by
 unfold okT at h
 simp only [Bool.and_eq_true] at h
 obtain ⟨h1,h2,h3⟩:=h
 rw [bif_beq] at h3
 refine ⟨⟨by rw [nv_bn],by rw [nv_bn],fun h0=>?_,?_⟩,sm_size h1,sm_size h2,fun h0=>?_⟩
 ·rw [nv_bn] at h0
  rw [if_pos h0] at h3
  simp only [Bool.and_eq_true,Bool.not_eq_true'] at h3
  exact ⟨h3.1,by rw [nv_bn]; exact beq_iff'.mp h3.2⟩
 ·rw [nv_bn,nv_bn]
  split at h3
  ·simp only [Bool.and_eq_true] at h3
   exact .inl (beq_iff'.mp h3.2)
  ·simp only [Bool.or_eq_true,Bool.and_eq_true,Bool.not_eq_true'] at h3
   rcases h3 with h3 | ⟨h3,h4⟩
   ·exact .inl (beq_iff'.mp h3)
   ·exact .inr ⟨fun e=>(by rw [beq_iff'.mpr e] at h3; cases h3),beq_iff'.mp h4⟩
 ·rw [if_pos h0] at h3
  simp only [Bool.and_eq_true,Bool.not_eq_true'] at h3
  exact h3.1
theorem okT_f {n:Bool} {s d:Nat} (h:okT n s d=true):rn (rq n (bn s) (bn d))=n∧nm (rq n (bn s) (bn d))=s∧(rq n (bn s) (bn d)).den=dD d∧rs (rq n (bn s) (bn d))=bn s∧rd (rq n (bn s) (bn d))=bn d:=by
 obtain ⟨hv,-⟩:=okT_spec h
 obtain ⟨e1,e2⟩:=vld_num hv
 obtain ⟨f1,f2,f3⟩:=vld_fields hv
 refine ⟨f1,?_,?_,f2,f3⟩
 ·unfold nm; rw [e1,sgn_natAbs,nv_bn]
 ·rw [e2]; unfold dn dD; rw [nv_bn,bif_beq]
theorem okT_rv {n:Bool} {s d:Nat} (h:okT n s d=true):rv (rq n (bn s) (bn d)) = .agg #[.bool n,.string (bn s),.string (bn d)]:=rv_vld (okT_spec h).1
def zeroV:V:=.agg [.bool false,.nat 0,.nat 0]
def enc (n:Bool) (x y:Nat):V :=
 bif Nat.beq x 0 then zeroV else fB n fun n=>fN (Nat.gcd x y) fun g=>fN (x/g) fun p=>fN (y/g) fun q=>bif Nat.beq q 1 then .agg [.bool n,.nat p,.nat 0] else .agg [.bool n,.nat p,.nat q]
theorem zero_RV (φ:Ph):RV φ zeroV (rv 0):=⟨_,rfl,rfl,rfl,rfl,trivial⟩
theorem enc_RV {n:Bool} {x y:Nat} (hy:0<y) (φ:Ph):RV φ (enc n x y) (rv (fr n x y)):=by
 unfold enc
 rw [bif_beq]
 by_cases hx:x=0
 ·rw [if_pos hx,hx,fr_zero]; exact zero_RV φ
 ·rw [if_neg hx,fB_eq,fN_eq,fN_eq,fN_eq,bif_beq,rv_fr (by omega) hy]
  split
  ·exact ⟨_,rfl,rfl,rfl,rfl,trivial⟩
  ·exact ⟨_,rfl,rfl,rfl,rfl,trivial⟩
def addT (n1:Bool) (s1 d1:Nat) (n2:Bool) (s2 d2:Nat):V :=
 fN (s1*dD d2) fun X=>fN (s2*dD d1) fun Y=>fN (dD d1*dD d2) fun Z =>
  bif n1 == n2 then enc n1 (X+Y) Z else bif Nat.ble Y X then enc n1 (X - Y) Z else enc n2 (Y - X) Z
theorem addT_RV {n1 n2:Bool} {s1 d1 s2 d2:Nat} (h1:okT n1 s1 d1=true) (h2:okT n2 s2 d2=true) (φ:Ph):RV φ (addT n1 s1 d1 n2 s2 d2) (rv (rq n1 (bn s1) (bn d1)+rq n2 (bn s2) (bn d2))):=by
 obtain ⟨a1,a2,a3,-⟩:=okT_f h1
 obtain ⟨b1,b2,b3,-⟩:=okT_f h2
 have hZ:0<dD d1*dD d2:=Nat.mul_pos (dD_pos _) (dD_pos _)
 rw [fr_add,a1,a2,a3,b1,b2,b3]
 unfold addT
 rw [fN_eq,fN_eq,fN_eq]
 by_cases hn:n1=n2
 ·subst hn
  rw [sgn_add_same]
  simp only [beq_self_eq_true,cond_true]
  exact enc_RV hZ φ
 ·rw [show (n1 == n2)=false from by simpa using hn,cond_false]
  cases hb:Nat.ble (s2*dD d1) (s1*dD d2) with
  | true =>
   rw [sgn_add_diff hn (Nat.le_of_ble_eq_true hb),cond_true]
   exact enc_RV hZ φ
  | false =>
   have hlt : ¬ s2*dD d1≤s1*dD d2:=fun h=>by rw [Nat.ble_eq_true_of_le h] at hb; cases hb
   rw [Int.add_comm,sgn_add_diff (fun e=>hn e.symm) (by omega),cond_false]
   exact enc_RV hZ φ
def mulT (n1:Bool) (s1 d1:Nat) (n2:Bool) (s2 d2:Nat):V:=fN (s1*s2) fun X=>fN (dD d1*dD d2) fun Z=>enc (n1 != n2) X Z
theorem mulT_RV {n1 n2:Bool} {s1 d1 s2 d2:Nat} (h1:okT n1 s1 d1=true) (h2:okT n2 s2 d2=true) (φ:Ph):RV φ (mulT n1 s1 d1 n2 s2 d2) (rv (rq n1 (bn s1) (bn d1)*rq n2 (bn s2) (bn d2))):=by
 obtain ⟨a1,a2,a3,-⟩:=okT_f h1
 obtain ⟨b1,b2,b3,-⟩:=okT_f h2
 rw [fr_mul,a1,a2,a3,b1,b2,b3]
 unfold mulT
 rw [fN_eq,fN_eq]
 exact enc_RV (Nat.mul_pos (dD_pos _) (dD_pos _)) φ
def withB (x:V) (b:Bool):V:=.tcons x (.tcons (.c (.bool b)) .tnil)
theorem withB_RV {φ:Ph} {x:V} {q:Rat} {b:Bool} (h:RV φ x (rv q)):RV φ (withB x b) (rvB q b):=⟨rv q,[.bool b],rfl,h,.bool b,[],rfl,rfl,rfl⟩
def divT (n1:Bool) (s1 d1:Nat) (n2:Bool) (s2 d2:Nat):V :=
 bif Nat.beq s2 0 then withB zeroV false else fN (s1*dD d2) fun X=>fN (dD d1*s2) fun Z=>withB (enc (n1 != n2) X Z) true
theorem divT_RV {n1 n2:Bool} {s1 d1 s2 d2:Nat} (h1:okT n1 s1 d1=true) (h2:okT n2 s2 d2=true) (φ:Ph):RV φ (divT n1 s1 d1 n2 s2 d2) (rvB (divR (rq n1 (bn s1) (bn d1)) (rq n2 (bn s2) (bn d2))) (okR (rq n2 (bn s2) (bn d2)))):=by
 obtain ⟨a1,a2,a3,-⟩:=okT_f h1
 obtain ⟨b1,b2,b3,-⟩:=okT_f h2
 unfold divT divR okR
 rw [bif_beq]
 by_cases h0:s2=0
 ·have hq:rq n2 (bn s2) (bn d2)=0:=nm_zero.mp (by rw [b2]; exact h0)
  rw [if_pos h0,hq,if_pos rfl]
  exact withB_RV (zero_RV φ)
 ·have hq : ¬ rq n2 (bn s2) (bn d2)=0:=fun e=>h0 (by rw [← b2]; exact nm_zero.mpr e)
  rw [if_neg h0,if_neg hq,fr_div hq,a1,a2,a3,b1,b2,b3,fN_eq,fN_eq,show (!decide (rq n2 (bn s2) (bn d2)=0))=true by simp [hq]]
  exact withB_RV (enc_RV (Nat.mul_pos (dD_pos _) (by omega)) φ)
def cmpn (x y:Nat):Int:=bif Nat.blt x y then .negSucc 0 else bif Nat.beq x y then .ofNat 0 else .ofNat 1
def cmpT (n1:Bool) (s1 d1:Nat) (n2:Bool) (s2 d2:Nat):Int :=
 match n1,n2 with
 | true,false=>.negSucc 0
 | false,true=>.ofNat 1
 | false,false=>cmpn (s1*dD d2) (s2*dD d1)
 | true,true=>cmpn (s2*dD d1) (s1*dD d2)
theorem cmpn_lt {x y:Nat} (h:x<y):cmpn x y = -1:=by
 unfold cmpn
 rw [show Nat.blt x y=true from Nat.ble_eq_true_of_le h]; rfl
theorem cmpn_ge {x y:Nat} (h : ¬ x<y):cmpn x y=if x=y then 0 else 1:=by
 unfold cmpn
 rw [show Nat.blt x y=false from by
  cases hb:Nat.blt x y with
  | true=>exact absurd (Nat.le_of_ble_eq_true hb) h
  | false=>rfl,cond_false,bif_beq]
 split <;> rfl
theorem cmpT_eq {n1 n2:Bool} {s1 d1 s2 d2:Nat} (h1:okT n1 s1 d1=true) (h2:okT n2 s2 d2=true):cmpR (rq n1 (bn s1) (bn d1)) (rq n2 (bn s2) (bn d2))=cmpT n1 s1 d1 n2 s2 d2:=by
 obtain ⟨a1,a2,a3,-⟩:=okT_f h1
 obtain ⟨b1,b2,b3,-⟩:=okT_f h2
 obtain ⟨va,-,-,za⟩:=okT_spec h1
 obtain ⟨vb,-,-,zb⟩:=okT_spec h2
 have na:=(vld_num va).1
 have nb:=(vld_num vb).1
 rw [nv_bn] at na nb
 generalize hp:rq n1 (bn s1) (bn d1)=p at *
 generalize hq:rq n2 (bn s2) (bn d2)=q at *
 have l1:=Rat.lt_iff p q
 have l2:=Rat.lt_iff q p
 rw [na,nb,a3,b3] at l1 l2
 have p1:=dD_pos d1
 have p2:=dD_pos d2
 have tri : ∀ c:Int,(p<q→c = -1)→(q<p→c=1)→(p=q→c=0)→cmpR p q=c:=fun c t1 t2 t3=>by
  by_cases h1:p<q
  ·rw [cmpR_lt h1,t1 h1]
  ·by_cases h2:q<p
   ·rw [cmpR_gt h2,t2 h2]
   ·have h3:p=q:=Rat.le_antisymm (Rat.not_lt.mp h2) (Rat.not_lt.mp h1)
    rw [t3 h3,h3,cmpR_eq]
 have eqc:p=q→s1*dD d2=s2*dD d1:=fun e=>by rw [← a2,← b2,← a3,← b3,e]
 have x1:((s1*dD d2:Nat):Int)=(s1:Int)*(dD d2:Int):=by simp
 have x2:((s2*dD d1:Nat):Int)=(s2:Int)*(dD d1:Int):=by simp
 cases n1 <;> cases n2
 ·simp only [sgn,Bool.false_eq_true,if_false] at l1 l2
  rw [← x1,← x2] at l1
  rw [← x1,← x2] at l2
  show cmpR p q=cmpn (s1*dD d2) (s2*dD d1)
  refine tri _ (fun h=>cmpn_lt (by have:=l1.mp h; omega)) (fun h=>?_) (fun h=>?_)
  ·have:=l2.mp h
   rw [cmpn_ge (by omega),if_neg (by omega)]
  ·have:=eqc h
   rw [cmpn_ge (by omega),if_pos this]
 ·have hs:s2≠0:=fun e=>by have:=zb e; cases this
  have hlt:q<p:=l2.mpr (by
   simp only [sgn,if_true,Bool.false_eq_true,if_false]
   have:0<(s2:Int)*(dD d1:Int):=Int.mul_pos (by omega) (by omega)
   have h5:0≤(s1:Int)*(dD d2:Int):=Int.mul_nonneg (by omega) (by omega)
   rw [Int.neg_mul]
   omega)
  rw [cmpR_gt hlt]; rfl
 ·have hs:s1≠0:=fun e=>by have:=za e; cases this
  have hlt:p<q:=l1.mpr (by
   simp only [sgn,if_true,Bool.false_eq_true,if_false]
   have:0<(s1:Int)*(dD d2:Int):=Int.mul_pos (by omega) (by omega)
   have h5:0≤(s2:Int)*(dD d1:Int):=Int.mul_nonneg (by omega) (by omega)
   rw [Int.neg_mul]
   omega)
  rw [cmpR_lt hlt]; rfl
 ·simp only [sgn,if_true,Int.neg_mul] at l1 l2
  rw [← x1,← x2] at l1
  rw [← x1,← x2] at l2
  show cmpR p q=cmpn (s2*dD d1) (s1*dD d2)
  refine tri _ (fun h=>cmpn_lt (by have:=l1.mp h; omega)) (fun h=>?_) (fun h=>?_)
  ·have:=l2.mp h
   rw [cmpn_ge (by omega),if_neg (by omega)]
  ·have:=eqc h
   rw [cmpn_ge (by omega),if_pos this.symm]
def signT (n:Bool) (s:Nat):Int:=bif Nat.beq s 0 then .ofNat 0 else bif n then .negSucc 0 else .ofNat 1
theorem signT_eq {n:Bool} {s d:Nat} (h:okT n s d=true):sg (rq n (bn s) (bn d))=signT n s:=by
 obtain ⟨a1,a2,-⟩:=okT_f h
 unfold signT
 rw [bif_beq]
 by_cases h0:s=0
 ·rw [if_pos h0,sg_zero (by rw [a2]; exact h0)]; rfl
 ·rw [if_neg h0]
  cases n with
  | true=>rw [sg_neg a1]; rfl
  | false=>rw [sg_pos a1 (by rw [a2]; exact h0)]; rfl
def intT (i:Int):V:=match i with | .ofNat m=>enc false m 1 | .negSucc m=>enc true (m+1) 1
theorem intT_RV (i:Int) (φ:Ph):RV φ (intT i) (rv (i:Rat)):=by
 rw [← fr_int i]
 cases i with
 | ofNat m=>exact enc_RV (n:=false) (x:=m) (y:=1) (Nat.le_refl 1) φ
 | negSucc m =>
  rw [show decide (Int.negSucc m<0)=true from decide_eq_true (Int.negSucc_lt_zero m)]
  exact enc_RV (n:=true) (x:=m+1) (y:=1) (Nat.le_refl 1) φ
def cRat1 (f:Bool→Nat→Nat→V):List V→Option V
 | [.agg [.bool n,x,y]]=>(match x.num,y.num with | some s,some d=>bif okT n s d then some (f n s d) else none | _,_=>none)
 | _=>none
def cRat2 (f:Bool→Nat→Nat→Bool→Nat→Nat→V):List V→Option V
 | [.agg [.bool n1,x1,y1],.agg [.bool n2,x2,y2]]=>(match x1.num,y1.num with
  | some s1,some d1=>(match x2.num,y2.num with | some s2,some d2=>bif okT n1 s1 d1 && okT n2 s2 d2 then some (f n1 s1 d1 n2 s2 d2) else none | _,_=>none)
  | _,_=>none)
 | _=>none
def cNat2 (f:Nat→Nat→V):List V→Option V
 | [.c x,.c y]=>(match x.num,y.num with | some a,some b=>bif sm a && sm b then some (f a b) else none | _,_=>none)
 | _=>none
def ratVk (n:Bool) (s d:Nat):V:=.agg [.bool n,.nat s,.nat d]
def iVk (i:Int):V:=match i with | .ofNat 0=>.c (.int .i64 (.ofNat 0)) | .ofNat (n+1)=>.c (.int .i64 (.ofNat (n+1))) | .negSucc n=>.c (.int .i64 (.negSucc n))
def cInt:List V→Option V
 | [.c (.int .i64 i)]=>bif inR .i64 i then some (intT i) else none
 | _=>none
def cMake:List V→Option V
 | [.c (.bool n),.c x,.c y]=>(match x.num,y.num with | some a,some b=>bif sm a && sm b then some (bif Nat.beq b 0 then withB zeroV false else withB (enc n a b) true) else none | _,_=>none)
 | _=>none
def cFrom:List V→Option V
 | [.c (.int .u64 (.ofNat u))]=>bif Nat.blt u 18446744073709551616 then some (.c (.nat u)) else none
 | _=>none
def subN (a b:Nat):V:=bif Nat.blt a b then .tcons (.c (.nat 0)) (.tcons (.c (.bool false)) .tnil) else fN (a - b) fun m=>.tcons (.c (.nat m)) (.tcons (.c (.bool true)) .tnil)
def cDivN:List V→Option V
 | [.c x,.c y]=>(match x.num,y.num with | some a,some b=>bif sm a && (sm b && !Nat.beq b 0) then some (fN (a/b) fun q=>fN (a%b) fun r=>.tcons (.c (.nat q)) (.tcons (.c (.nat r)) (.tcons (.c (.bool true)) .tnil))) else none | _,_=>none)
 | _=>none
def natV (n:Nat):V:=fN n fun n=>.c (.nat n)
def ctr (f:Nat) (args:List V):Option V :=
 if f=93 then cRat2 addT args
 else if f=36 then cRat2 (fun a b c d e f=>iVk (cmpT a b c d e f)) args
 else if f=250 then cRat2 mulT args
 else if f=248 then cRat2 divT args
 else if f=127 then cRat1 (fun n s _=>iVk (signT n s)) args
 else if f=152 then cRat2 (fun a b c d e f=>bif decide (cmpT a b c d e f≤0) then ratVk a b c else ratVk d e f) args
 else if f=77 then cRat2 (fun a b c d e f=>bif decide (0≤cmpT a b c d e f) then ratVk a b c else ratVk d e f) args
 else if f=67 then cRat1 ratVk args
 else if f=131 then cRat2 addT args
 else if f=116 then cRat1 (fun _ _ _=>.c (.bool true)) args
 else if f=198 then cInt args
 else if f=286 then cMake args
 else if f=275 then cFrom args
 else if f=179 then cNat2 (fun a b=>natV (a+b)) args
 else if f=180 then cNat2 subN args
 else if f=70 then cNat2 (fun a b=>natV (a*b)) args
 else if f=172 then cNat2 (fun a b=>natV (Nat.gcd a b)) args
 else if f=215 then cDivN args
 else if f=31 then cInt args
 else none
def orcC (f:Nat) (args:List V) (σ:St):Option (V×St):=match ctr f args with | some v=>some (v,σ) | none=>none
def isT:Option (V×St)→Bool
 | some (.c (.bool true),_)=>true
 | _=>false
end Go.Proofs.Xe
