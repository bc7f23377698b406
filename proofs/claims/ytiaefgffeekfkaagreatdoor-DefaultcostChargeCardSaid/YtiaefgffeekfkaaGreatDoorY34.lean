/- Groups of one's own, in the executor's words; insolvencylaw0.Late. -/
import Derived.Test.YtiaefgffeekfkaaGreatDoorY32
import Derived.Test.YtiaefgffeekfkaaGreatDoorY33
set_option linter.unusedSimpArgs false
set_option linter.unusedVariables false
namespace Go.Proofs.Xe
open Go.Proofs
def a_r21_cleanAgreement:AF:=⟨48,(.seq (.ops [⟨d 1,none,.box (.t 0)⟩,
 ⟨d 2,none,.alloc [.nils]⟩]) (.seq (.ops [⟨d 3,none,.alloc [.nils]⟩]) (.seq (.seq (.ops [⟨d 4,none,.mov (ki 0)⟩]) (.block 0 (.loop (.seq (.seq (.ops [⟨d 8,none,.mov (.t 4)⟩,
 ⟨d 9,none,.faddr 0 (.t 1)⟩,⟨d 10,none,.load 1 false (.t 9)⟩,⟨d 11,none,.len (.t 10)⟩,
 ⟨d 12,none,.bin .lss (.t 8) (.t 11)⟩]) (.cond (.t 12) .skip (.exit 0))) (.seq (.block 1 (.seq (.ops [⟨d 5,none,.mov (.k (.c (.nils)))⟩]) (.seq (.seq (.ops [⟨d 6,none,.mov (ki 0)⟩]) (.block 2 (.loop (.seq (.seq (.ops [⟨d 15,none,.mov (.t 6)⟩,
 ⟨d 16,none,.faddr 0 (.t 1)⟩,⟨d 17,none,.load 1 false (.t 16)⟩,⟨d 18,none,.mov (.t 4)⟩,⟨d 19,none,.iaddr 1 (.t 17) (.t 18)⟩,⟨d 20,none,.load 1 false (.t 19)⟩,
 ⟨d 21,none,.len (.t 20)⟩,⟨d 22,none,.bin .lss (.t 15) (.t 21)⟩]) (.cond (.t 22) .skip (.exit 2))) (.seq (.block 3 (.seq (.ops [⟨d 25,none,.faddr 0 (.t 1)⟩,
 ⟨d 26,none,.load 1 false (.t 25)⟩,⟨d 27,none,.mov (.t 4)⟩,⟨d 28,none,.iaddr 1 (.t 26) (.t 27)⟩,⟨d 29,none,.load 1 false (.t 28)⟩,⟨d 30,none,.mov (.t 6)⟩,
 ⟨d 31,none,.iaddr 5 (.t 29) (.t 30)⟩,⟨d 32,none,.load 5 true (.t 31)⟩,⟨d 7,none,.alloc [i0,.bool false,.bool false,s0,s0]⟩,
 ⟨none,none,.store 5 (.t 7) (.t 32)⟩]) (.seq (.ops [⟨d 33,none,.faddr 2 (.t 7)⟩,⟨d 34,none,.load 3 true (.t 33)⟩,⟨d 35,none,.call (kf 40) [(.t 34)]⟩,⟨d 36,none,.faddr 2 (.t 7)⟩,
 ⟨none,none,.store 3 (.t 36) (.t 35)⟩]) (.ops [⟨d 37,none,.mov (.t 5)⟩,⟨d 38,none,.load 5 true (.t 7)⟩,⟨d 39,none,.bsl 5 1 [i0,.bool false,.bool false,s0,s0] [(0,5,(.t 38))]⟩,
 ⟨d 40,none,.app 84 5 56 (.t 37) (.t 39)⟩,⟨d 5,none,.mov (.t 40)⟩])))) (.ops [⟨d 23,none,.mov (.t 6)⟩,⟨d 24,none,.bin .add (.t 23) (ki 1)⟩,
 ⟨d 6,none,.mov (.t 24)⟩])))))) (.ops [⟨d 41,none,.faddr 0 (.t 3)⟩,⟨d 42,none,.load 1 false (.t 41)⟩,⟨d 43,none,.mov (.t 5)⟩,⟨d 44,none,.bsl 1 1 [.nils] [(0,1,(.t 43))]⟩,
 ⟨d 45,none,.app 85 1 24 (.t 42) (.t 44)⟩,⟨d 46,none,.faddr 0 (.t 3)⟩,⟨none,none,.store 1 (.t 46) (.t 45)⟩])))) (.ops [⟨d 13,none,.mov (.t 4)⟩,
 ⟨d 14,none,.bin .add (.t 13) (ki 1)⟩,⟨d 4,none,.mov (.t 14)⟩])))))) (.seq (.ops [⟨d 47,none,.load 1 true (.t 3)⟩,
 ⟨none,none,.store 1 (.t 2) (.t 47)⟩]) .ret)))),[(2,(some (1,true)))]⟩
def a_slices_IndexFunc__api_Rat_api_Rat:AF:=⟨19,(.seq (.ops [⟨d 4,none,.mov (ki 0)⟩]) (.seq (.seq (.ops [⟨d 6,none,.mov (.t 0)⟩,⟨d 7,none,.len (.t 6)⟩,
 ⟨d 8,none,.mov (ki 0)⟩]) (.block 0 (.loop (.seq (.ops [⟨d 9,none,.bin .lss (.t 8) (.t 7)⟩]) (.seq (.cond (.t 9) .skip (.exit 0)) (.seq (.block 1 (.seq (.ops [⟨d 10,none,.mov (.t 8)⟩,
 ⟨d 5,none,.mov (.t 10)⟩]) (.seq (.ops [⟨d 11,none,.mov (.t 1)⟩,⟨d 12,none,.mov (.t 0)⟩,⟨d 13,none,.mov (.t 5)⟩,⟨d 14,none,.iaddr 3 (.t 12) (.t 13)⟩,
 ⟨d 15,none,.load 3 true (.t 14)⟩,⟨d 16,none,.call (.t 11) [(.t 15)]⟩]) (.cond (.t 16) (.seq (.ops [⟨d 17,none,.mov (.t 5)⟩,
 ⟨d 4,none,.mov (.t 17)⟩]) .ret) .skip)))) (.ops [⟨d 18,none,.bin .add (.t 8) (ki 1)⟩,
 ⟨d 8,none,.mov (.t 18)⟩]))))))) (.seq (.ops [⟨d 4,none,.mov (.k (.c (.int .i64 (.negSucc 0))))⟩]) .ret))),[(4,none)]⟩
def fnT:FT:=(.node 49 a_l0_owe (.node 20 a_l0_Group (.node 16 a_l0_Flags (.node 10 a_l21_group (.node 4 a_l21_DefaultcostCharge .leaf .leaf) (.node 15 a_l0_Costs .leaf .leaf)) (.node 18 a_r21_Charge (.node 17 a_defaultcost_Charge .leaf .leaf) .leaf)) (.node 44 a_r21_checkCosts (.node 41 a_defaultcost_checkSet (.node 34 a_l0_Late .leaf .leaf) (.node 42 a_defaultcost_charge .leaf .leaf)) (.node 48 a_l0_agree (.node 45 a_r21_charge .leaf .leaf) .leaf))) (.node 126 a_defaultcost_negative_1 (.node 85 a_l0_free (.node 76 a_defaultcost_copyGroup (.node 75 a_defaultcost_negative .leaf .leaf) (.node 82 a_r21_Clean .leaf .leaf)) (.node 125 a_slices_ContainsFunc__api_Rat_api_Rat (.node 86 a_l0_taken .leaf .leaf) .leaf)) (.node 130 a_slices_Clone__api_Leg_api_Leg (.node 129 a_defaultcost_clean (.node 128 a_defaultcost_copyEstate .leaf .leaf) .leaf) (.node 177 a_slices_IndexFunc__api_Rat_api_Rat (.node 136 a_r21_cleanAgreement .leaf .leaf) .leaf))))
noncomputable def EN:Env:=⟨fnT.find,orcA⟩
instance EN_a:HasA EN:=⟨fun _ _ _ _ h=>h⟩
theorem F_l21_DefaultcostCharge:EN.fns 4=some a_l21_DefaultcostCharge:=by kernel_rfl
theorem O_l21_DefaultcostCharge (args:List V) (σ:St):EN.orc 4 args σ=none:=by rfl
theorem F_l21_group:EN.fns 10=some a_l21_group:=by kernel_rfl
theorem O_l21_group (args:List V) (σ:St):EN.orc 10 args σ=none:=by rfl
theorem F_l0_Costs:EN.fns 15=some a_l0_Costs:=by kernel_rfl
theorem O_l0_Costs (args:List V) (σ:St):EN.orc 15 args σ=none:=by rfl
theorem F_l0_Flags:EN.fns 16=some a_l0_Flags:=by kernel_rfl
theorem O_l0_Flags (args:List V) (σ:St):EN.orc 16 args σ=none:=by rfl
theorem F_defaultcost_Charge:EN.fns 17=some a_defaultcost_Charge:=by kernel_rfl
theorem O_defaultcost_Charge (args:List V) (σ:St):EN.orc 17 args σ=none:=by rfl
theorem F_r21_Charge:EN.fns 18=some a_r21_Charge:=by kernel_rfl
theorem O_r21_Charge (args:List V) (σ:St):EN.orc 18 args σ=none:=by rfl
theorem F_l0_Group:EN.fns 20=some a_l0_Group:=by kernel_rfl
theorem O_l0_Group (args:List V) (σ:St):EN.orc 20 args σ=none:=by rfl
theorem F_l0_Late:EN.fns 34=some a_l0_Late:=by kernel_rfl
theorem O_l0_Late (args:List V) (σ:St):EN.orc 34 args σ=none:=by rfl
theorem F_defaultcost_checkSet:EN.fns 41=some a_defaultcost_checkSet:=by kernel_rfl
theorem O_defaultcost_checkSet (args:List V) (σ:St):EN.orc 41 args σ=none:=by rfl
theorem F_defaultcost_charge:EN.fns 42=some a_defaultcost_charge:=by kernel_rfl
theorem O_defaultcost_charge (args:List V) (σ:St):EN.orc 42 args σ=none:=by rfl
theorem F_r21_checkCosts:EN.fns 44=some a_r21_checkCosts:=by kernel_rfl
theorem O_r21_checkCosts (args:List V) (σ:St):EN.orc 44 args σ=none:=by rfl
theorem F_r21_charge:EN.fns 45=some a_r21_charge:=by kernel_rfl
theorem O_r21_charge (args:List V) (σ:St):EN.orc 45 args σ=none:=by rfl
theorem F_l0_agree:EN.fns 48=some a_l0_agree:=by kernel_rfl
theorem O_l0_agree (args:List V) (σ:St):EN.orc 48 args σ=none:=by rfl
theorem F_l0_owe:EN.fns 49=some a_l0_owe:=by kernel_rfl
theorem O_l0_owe (args:List V) (σ:St):EN.orc 49 args σ=none:=by rfl
theorem F_defaultcost_negative:EN.fns 75=some a_defaultcost_negative:=by kernel_rfl
theorem O_defaultcost_negative (args:List V) (σ:St):EN.orc 75 args σ=none:=by rfl
theorem F_defaultcost_copyGroup:EN.fns 76=some a_defaultcost_copyGroup:=by kernel_rfl
theorem O_defaultcost_copyGroup (args:List V) (σ:St):EN.orc 76 args σ=none:=by rfl
theorem F_r21_Clean:EN.fns 82=some a_r21_Clean:=by kernel_rfl
theorem O_r21_Clean (args:List V) (σ:St):EN.orc 82 args σ=none:=by rfl
theorem F_l0_free:EN.fns 85=some a_l0_free:=by kernel_rfl
theorem O_l0_free (args:List V) (σ:St):EN.orc 85 args σ=none:=by rfl
theorem F_l0_taken:EN.fns 86=some a_l0_taken:=by kernel_rfl
theorem O_l0_taken (args:List V) (σ:St):EN.orc 86 args σ=none:=by rfl
theorem F_slices_ContainsFunc__api_Rat_api_Rat:EN.fns 125=some a_slices_ContainsFunc__api_Rat_api_Rat:=by kernel_rfl
theorem O_slices_ContainsFunc__api_Rat_api_Rat (args:List V) (σ:St):EN.orc 125 args σ=none:=by rfl
theorem F_defaultcost_negative_1:EN.fns 126=some a_defaultcost_negative_1:=by kernel_rfl
theorem O_defaultcost_negative_1 (args:List V) (σ:St):EN.orc 126 args σ=none:=by rfl
theorem F_defaultcost_copyEstate:EN.fns 128=some a_defaultcost_copyEstate:=by kernel_rfl
theorem O_defaultcost_copyEstate (args:List V) (σ:St):EN.orc 128 args σ=none:=by rfl
theorem F_defaultcost_clean:EN.fns 129=some a_defaultcost_clean:=by kernel_rfl
theorem O_defaultcost_clean (args:List V) (σ:St):EN.orc 129 args σ=none:=by rfl
theorem F_slices_Clone__api_Leg_api_Leg:EN.fns 130=some a_slices_Clone__api_Leg_api_Leg:=by kernel_rfl
theorem O_slices_Clone__api_Leg_api_Leg (args:List V) (σ:St):EN.orc 130 args σ=none:=by rfl
theorem F_r21_cleanAgreement:EN.fns 136=some a_r21_cleanAgreement:=by kernel_rfl
theorem O_r21_cleanAgreement (args:List V) (σ:St):EN.orc 136 args σ=none:=by rfl
theorem F_slices_IndexFunc__api_Rat_api_Rat:EN.fns 177=some a_slices_IndexFunc__api_Rat_api_Rat:=by kernel_rfl
theorem O_slices_IndexFunc__api_Rat_api_Rat (args:List V) (σ:St):EN.orc 177 args σ=none:=by rfl
end Go.Proofs.Xe
namespace Go.Proofs.Xe
open Go.RowKit Go.Proofs.Ins
attribute [go_sem] rq_of
def Lt (n b:Nat):Prop:=b<n
theorem Fr.lt {σ σ' : St} (h:Fr σ σ') : ∀ b,Lt σ.nxt b→σ'.h b=σ.h b:=fun b hb=>h.old b hb
theorem HLp.lt {σ:St} (hW:WF σ) {p:Nat→Prop} {e n:Nat} {v:B} {G:Nat→List B} (hl:HLp p σ.h e v n G):HLp (Lt σ.nxt) σ.h e v n G:=by
 rcases hl with h|⟨b,o,c,h1,h2,h3⟩
 ·exact .inl h
 ·exact .inr ⟨b,o,c,h1,fun h=>hW.ld_lt (h3 0 h),h3⟩
theorem HGrp.lt {σ:St} (hW:WF σ) {p:Nat→Prop} {ev dv:B} {g:Grp} (hg:HGrp p σ.h ev dv g):HGrp (Lt σ.nxt) σ.h ev dv g:=by
 obtain ⟨⟨C,A,h1,h2⟩,⟨L,h3,h4⟩⟩:=hg
 refine ⟨⟨C,A,h1.lt hW,fun i hi=>⟨(h2 i hi).1.lt hW,?_⟩⟩,⟨L,h3.lt hW,fun i hi=>(h4 i hi).lt hW⟩⟩
 obtain ⟨T,k1,k2⟩:=(h2 i hi).2
 refine ⟨T,k1.lt hW,fun j hj=>?_⟩
 obtain ⟨U,m1,m2⟩:=k2 j hj
 exact ⟨U,m1.lt hW,fun l hl=>(m2 l hl).lt hW⟩
theorem HGrp.fr {σ σ' : St} (hW:WF σ) (hf:Fr σ σ') {p:Nat→Prop} {ev dv:B} {g:Grp} (hg:HGrp p σ.h ev dv g):HGrp (Lt σ.nxt) σ'.h ev dv g:=(hg.lt hW).keep hf.lt fun _ h=>h
theorem HLp.fr {σ σ' : St} (hW:WF σ) (hf:Fr σ σ') {p:Nat→Prop} {e n:Nat} {v:B} {G:Nat→List B} (hl:HLp p σ.h e v n G):HLp (Lt σ.nxt) σ'.h e v n G:=(hl.lt hW).keep hf.lt fun _ h=>h
theorem ld_one {h:Tr Bk} {b o:Nat} {x:B} (e:ld h b o 1 true=some (.agg [x])):ld h b o 1 false=some (.c x)∧x.kn=true:=by
 have hk:x.kn=true:=by
  unfold ld at e
  split at e
  ·next k _ =>
   cases hr:k.rd with
   | false=>rw [hr] at e;cases e
   | true =>
    rw [hr] at e
    simp only [cond_true] at e
    unfold rdC at e
    dsimp only at e
    cases hx:(Nat.beq ((k.cells.drop o).take 1).length 1 && ((k.cells.drop o).take 1).all B.kn) with
    | false=>rw [hx] at e;cases e
    | true =>
     rw [hx] at e
     have e2:=V.agg.inj (Option.some.inj e)
     rw [Bool.and_eq_true,e2] at hx
     simpa using hx.2
  ·cases e
 refine ⟨?_,hk⟩
 rw [ld_sub0 e 1 false (Nat.le_refl 1) (by decide)]
 unfold rdC
 simp [hk]
theorem Sz.zero:Sz 0:=⟨by show (0:Rat).num.natAbs<_;exact Nat.pow_pos (by decide),by show (0:Rat).den<_;exact Nat.one_lt_pow (by decide) (by decide)⟩
theorem Sz.two {q:Rat} (h:Sz q):(rs q).size+(rd q).size≤130000000:=by have:=h.sizes;omega
def setC (m gv n2 n3 n4 n5 n6 n7:B):List B:=[m,gv,n2,n3,n4,n5,n6,n7]
section
variable {m gv n2 n3 n4 n5 n6 n7:B}
end
theorem cel_ld {h:Tr Bk} {b n e:Nat} {G:Nat→List B} {o:Option (Nat×Nat)} (hb:h b=some ⟨celR n G,o⟩) (hr:rdo o=true) (hG : ∀ j,(G j).length=e) (he:0<e) (hk : ∀ j,j<n→(G j).all B.kn=true) {i:Nat} (hi:i<n):ld h b (0+i*e) e true=some (.agg (G i)):=by
 rw [ld_blk hb,rd_rdo,hr,cond_true,Nat.zero_add]
 have:=rd_cel (k:=0) (m:=e) true hG hi (by omega) he
 rw [Nat.add_zero] at this
 rw [this]
 unfold rdC
 dsimp only
 rw [List.drop_zero,← hG i,List.take_length,beq_s,hk i hi];rfl
theorem cel_hlp {p:Nat→Prop} {h:Tr Bk} {b n e:Nat} {G:Nat→List B} {o:Option (Nat×Nat)} (c:Cap) (hb:h b=some ⟨celR n G,o⟩) (hr:rdo o=true) (hp:p b) (hG : ∀ j,(G j).length=e) (he:0<e) (hk : ∀ j,j<n→(G j).all B.kn=true):HLp p h e (.sl b 0 n c) n G :=
 .inr ⟨b,0,c,rfl,fun _=>hp,fun _ hi=>cel_ld hb hr hG he hk hi⟩
def OwnL (h:Tr Bk) (v:B) (n:Nat) (G:Nat→List B) (e ty lo hi:Nat):Prop :=
 (n=0∧v = .nils)∨(0<n∧∃ b,v = .sl b 0 n .opn∧h b=some ⟨celR n G,some (e,ty)⟩∧lo≤b∧b<hi)
theorem OwnL.nil {h:Tr Bk} {G:Nat→List B} {e ty lo hi:Nat} : OwnL h .nils 0 G e ty lo hi:=.inl ⟨rfl,rfl⟩
theorem OwnL.hlp {p:Nat→Prop} {h:Tr Bk} {v:B} {n:Nat} {G:Nat→List B} {e ty lo hi:Nat} (ho:OwnL h v n G e ty lo hi) (hG : ∀ j,(G j).length=e) (he:0<e) (hk : ∀ j,j<n→(G j).all B.kn=true) (hp : ∀ b,lo≤b→b<hi→p b):HLp p h e v n G:=by
 rcases ho with h1|⟨h0,b,rfl,h1,h2,h3⟩
 ·exact .inl h1
 ·exact cel_hlp _ h1 (by rw [rdo_s _ _ (by omega)]) (hp b h2 h3) hG he hk
theorem OwnL.len {h:Tr Bk} {v:B} {n:Nat} {G:Nat→List B} {e ty lo hi:Nat} (ho:OwnL h v n G e ty lo hi):lenV (.c v)=some (.c (.int .i64 (.ofNat n))):=by
 rcases ho with ⟨rfl,rfl⟩|⟨h0,b,rfl,-⟩ <;> rfl
theorem OwnL.kn {h:Tr Bk} {v:B} {n:Nat} {G:Nat→List B} {e ty lo hi:Nat} (ho:OwnL h v n G e ty lo hi):v.kn=true:=by
 rcases ho with ⟨rfl,rfl⟩|⟨h0,b,rfl,-⟩ <;> rfl
theorem OwnL.mono {h h' : Tr Bk} {v:B} {n:Nat} {G:Nat→List B} {e ty lo hi lo' hi' : Nat} (ho:OwnL h v n G e ty lo hi) (hh : ∀ b,lo≤b→b<hi→h' b=h b) (h1:lo'≤lo) (h2:hi≤hi'):OwnL h' v n G e ty lo' hi':=by
 rcases ho with h|⟨h0,b,rfl,k1,k2,k3⟩
 ·exact .inl h
 ·exact .inr ⟨h0,b,rfl,by rw [hh b k2 k3];exact k1,by omega,by omega⟩
theorem cel_take {e n:Nat} {G:Nat→List B} (hG : ∀ j,(G j).length=e):(celR n G).take (n*e)=celR n G:=by rw [← cel_len hG,List.take_length]
theorem HL.one {h:Tr Bk} {v:B} {n:Nat} {G:Nat→B} (hl:HL h 1 v n fun i=>[G i]) (hn:0<n) : ∃ b o c,v = .sl b o n c∧∀ i,i<n→ld h b (o+i*1) 1 false=some (.c (G i)):=by
 obtain ⟨b,o,c,e,hld⟩:=hl.pos hn
 exact ⟨b,o,c,e,fun i hi=>(ld_one (hld i hi)).1⟩
theorem xsm_int {i:Int} {k:Nat} (h:i.natAbs<256 ^ k) (hk:0<k):Sm k (i:Rat):=Sm.int (by omega) h
theorem xsm_frac {i j:Int} (hi:i.natAbs<65536) (hj:j.natAbs<65536) (h0:j≠0):Sm 4 ((i:Rat)/(j:Rat)) :=
 Sm.div (k:=2) (l:=2) (xsm_int (by omega) (by omega)) (xsm_int (by omega) (by omega)) (by
  intro h;apply h0
  have:((j:Rat)).num=(0:Rat).num:=by rw [h]
  rw [Rat.num_intCast] at this;exact this)
theorem amt_small (x:Nat):Sm 4 (amt x):=by
 by_cases h:x%5=0
 ·rw [amt_0 h];exact xsm_frac (by omega) (by omega) (by omega)
 ·by_cases h1:x%5=1
  ·rw [amt_1 h1];exact xsm_int (by omega) (by omega)
  ·rw [amt_2 h h1];exact xsm_int (by omega) (by omega)
theorem amt_sz (x:Nat):Sz (amt x):=by
 unfold Sz
 exact (amt_small x).mono (by decide)
def NL (Q:(Nat→Prop)→Tr Bk→Nat→Prop) (h:Tr Bk) (v:B) (n:Nat) (G:Nat→List B) (e ty lo hi:Nat):Prop :=
 (n=0∧v = .nils)∨(0<n∧∃ b,v = .sl b 0 n .opn∧h b=some ⟨celR n G,some (e,ty)⟩∧lo≤b∧b<hi∧∀ j,j<n→Q (fun x=>lo≤x∧x<b) h j)
def QK (Q:(Nat→Prop)→Tr Bk→Nat→Prop) (j:Nat):Prop:=∀ (p q:Nat→Prop) (h h' : Tr Bk),Q p h j→(∀ b,p b→h' b=h b)→(∀ b,p b→q b)→Q q h' j
section
variable {Q:(Nat→Prop)→Tr Bk→Nat→Prop} {h h' : Tr Bk} {v:B} {n:Nat} {G G' : Nat→List B} {e ty lo hi:Nat}
theorem NL.nil:NL Q h .nils 0 G e ty lo hi:=.inl ⟨rfl,rfl⟩
theorem NL.own (ho:NL Q h v n G e ty lo hi):OwnL h v n G e ty lo hi:=by
 rcases ho with h1|⟨h0,b,rfl,h1,h2,h3,-⟩
 ·exact .inl h1
 ·exact .inr ⟨h0,b,rfl,h1,h2,h3⟩
theorem NL.mono (ho:NL Q h v n G e ty lo hi) (hQ : ∀ j,j<n→QK Q j) (hh : ∀ b,lo≤b→b<hi→h' b=h b) {hi' : Nat} (h2:hi≤hi'):NL Q h' v n G e ty lo hi':=by
 rcases ho with h1|⟨h0,b,rfl,k1,k2,k3,k4⟩
 ·exact .inl h1
 ·exact .inr ⟨h0,b,rfl,by rw [hh b k2 k3];exact k1,k2,by omega,fun j hj=>hQ j hj _ _ _ _ (k4 j hj) (fun x hx=>hh x hx.1 (by omega)) fun x hx=>hx⟩
theorem NL.el (ho:NL Q h v n G e ty lo hi) (hQ : ∀ j,j<n→QK Q j) {j:Nat} (hj:j<n):Q (fun x=>lo≤x∧x<hi) h j:=by
 rcases ho with ⟨h1,-⟩|⟨h0,b,rfl,k1,k2,k3,k4⟩
 ·omega
 ·exact hQ j hj _ _ _ _ (k4 j hj) (fun _ _=>rfl) fun x hx=>⟨hx.1,by omega⟩
theorem NL.push (ho:NL Q h v n G e ty lo hi) (hQ : ∀ j,j≤n→QK Q j) {x:List B} {hi1 nx n' : Nat} {h1:Tr Bk} (hx:Q (fun b=>hi≤b∧b<hi1) h1 n) (hh : ∀ b,lo≤b→b<hi→h1 b=h b) (h2:hi≤hi1) (h3:hi1≤nx) (h4:nx<n') (h5:lo≤hi) {cells:List B} (hc:cells=celR n G ++ x)
  (hb:h' nx=some ⟨cells,some (e,ty)⟩) (hk : ∀ b,lo≤b→b<hi1→(∀ c m k,v = .sl c 0 m k→b≠c)→h' b=h1 b) (hg : ∀ i,i<n→G' i=G i) (hgn:G' n=x):NL Q h' (.sl nx 0 (n+1) .opn) (n+1) G' e ty lo n':=by
 refine .inr ⟨by omega,nx,rfl,?_,by omega,h4,fun j hj=>?_⟩
 ·rw [hb,hc,cel_snoc]
  congr 2
  refine cel_congr fun i hi=>?_
  unfold updG
  split
  ·next e=>rw [e,hgn]
  ·rw [hg i (by omega)]
 ·by_cases e:j=n
  ·subst e
   refine hQ j (by omega) _ _ _ _ hx (fun x hx=>hk x (by omega) hx.2 fun c m k e=>?_) fun x hx=>⟨by omega,by omega⟩
   rcases ho with ⟨-,rfl⟩|⟨-,b,rfl,-,-,k3,-⟩
   ·cases e
   ·cases e;omega
  ·rcases ho with ⟨rfl,rfl⟩|⟨h0,b,rfl,k1,k2,k3,k4⟩
   ·omega
   ·exact hQ j (by omega) _ _ _ _ (k4 j (by omega)) (fun x hx=>by rw [hk x hx.1 (by omega) fun c m k e=>by cases e;omega,hh x hx.1 (by omega)]) fun x hx=>⟨hx.1,by omega⟩
theorem NL.congr {Q' : (Nat→Prop)→Tr Bk→Nat→Prop} (ho:NL Q h v n G e ty lo hi) (hQ : ∀ j,j<n→∀ p h,Q p h j→Q' p h j) (hG : ∀ j,j<n→G j=G' j):NL Q' h v n G' e ty lo hi:=by
 rcases ho with h1|⟨h0,b,rfl,k1,k2,k3,k4⟩
 ·exact .inl h1
 ·exact .inr ⟨h0,b,rfl,by rw [k1,cel_congr hG],k2,k3,fun j hj=>hQ j hj _ _ (k4 j hj)⟩
theorem NL.down (ho:NL Q h v n G e ty lo hi) (hQ : ∀ j,j<n→QK Q j) {lo2:Nat} (hl:lo2≤lo):NL Q h v n G e ty lo2 hi:=by
 rcases ho with h1|⟨h0,b,rfl,k1,k2,k3,k4⟩
 ·exact .inl h1
 ·exact .inr ⟨h0,b,rfl,k1,by omega,k3,fun j hj=>hQ j hj _ _ _ _ (k4 j hj) (fun _ _=>rfl) fun x hx=>⟨by omega,hx.2⟩⟩
theorem OwnL.of {h:Tr Bk} {nx n:Nat} {G:Nat→List B} {e ty lo hi:Nat} (hb:h nx=some ⟨celR n G ++ G n,some (e,ty)⟩) (h1:lo≤nx) (h2:nx<hi):OwnL h (.sl nx 0 (n+1) .opn) (n+1) G e ty lo hi:=by
 refine .inr ⟨by omega,nx,rfl,?_,h1,h2⟩
 rw [hb,cel_snoc]
 congr 2
 refine cel_congr fun i hi=>?_
 unfold updG
 split
 ·next e=>rw [e]
 ·rfl
end
section
variable {R:B→(Nat→Prop)→Tr Bk→Nat→Prop} {U:Nat→B} {h h' h1:Tr Bk} {v x:B} {n ty lo hi hi1 nx n' : Nat}
def NU (R:B→(Nat→Prop)→Tr Bk→Nat→Prop) (U:Nat→B) (h:Tr Bk) (v:B) (n ty lo hi:Nat):Prop:=NL (fun p h j=>R (U j) p h j) h v n (fun j=>[U j]) 1 ty lo hi
def RK (R:B→(Nat→Prop)→Tr Bk→Nat→Prop):Prop:=∀ u j (p q:Nat→Prop) (h h' : Tr Bk),R u p h j→(∀ b,p b→h' b=h b)→(∀ b,p b→q b)→R u q h' j
theorem NU.el (ho:NU R U h v n ty lo hi) (hR:RK R) {j:Nat} (hj:j<n):R (U j) (fun x=>lo≤x∧x<hi) h j:=NL.el ho (fun j _=>hR (U j) j) hj
theorem NU.kn (ho:NU R U h v n ty lo hi):v.kn=true:=OwnL.kn (NL.own ho)
theorem NU.cases (ho:NU R U h v n ty lo hi):(n=0∧v = .nils)∨(0<n∧∃ b,v = .sl b 0 n .opn∧h b=some ⟨celR n (fun j=>[U j]),some (1,ty)⟩∧lo≤b∧b<hi):=NL.own ho
theorem NU.push (ho:NU R U h v n ty lo hi) (hR:RK R) (hx:R x (fun b=>hi≤b∧b<hi1) h1 n) (hh : ∀ b,lo≤b→b<hi→h1 b=h b) (h2:hi≤hi1) (h3:hi1≤nx) (h4:nx<n') (h5:lo≤hi) {cells:List B} (hc:cells=celR n (fun j=>[U j]) ++ [x])
  (hb:h' nx=some ⟨cells,some (1,ty)⟩) (hk : ∀ b,lo≤b→b<hi1→(∀ c m k,v = .sl c 0 m k→b≠c)→h' b=h1 b):NU R (updF U n x) h' (.sl nx 0 (n+1) .opn) (n+1) ty lo n':=by
 have ho' : NL (fun p h j=>R (updF U n x j) p h j) h v n (fun j=>[updF U n x j]) 1 ty lo hi:=NL.congr ho (fun j hj p h hq=>by rw [updF_ne _ _ _ _ (by omega)];exact hq) fun j hj=>by rw [updF_ne _ _ _ _ (by omega)]
 refine NL.push ho' (fun j _=>hR (updF U n x j) j) (hi1:=hi1) (h1:=h1) (x:=[x]) (by rw [updF_same];exact hx) hh h2 h3 h4 h5 ?_ hb hk (fun _ _=>rfl) (by rw [updF_same])
 rw [hc,cel_congr (G:=fun j=>[updF U n x j]) (H:=fun j=>[U j]) fun j hj=>by rw [updF_ne _ _ _ _ (by omega)]]
end
def clR (r:R3):R3:=ofQ r.q
def clPt (x:Prt):Prt:=⟨x.k,x.b,clR x.a⟩
def clCl (x:C5):C5:=⟨x.h,x.r,clR x.a⟩
def clTr (t:List Prt):List Prt:=t.map clPt
def clAg (a:Agr):Agr:=a.map clTr
def clDb (d:Dbt):Dbt:=⟨clR d.w,d.l⟩
theorem ix_map {α β:Type} [Inhabited α] [Inhabited β] (f:α→β) (l:List α) {i:Nat} (h:i<l.length):ix (l.map f) i=f (ix l i):=by
 rw [ix_lt (by simpa using h),ix_lt h];simp
theorem fit_two {r:R3} {k:Nat} (h:r.fits k) (hk:k≤50000000):r.s.size+r.d.size≤130000000:=by have:=h.1;have:=h.2;omega
theorem fit_sz {r:R3} {k:Nat} (h:r.fits k) (hk:k≤20000000):Sz r.q:=(sm_raw r.n r.s r.d).mono (by have:=h.1;have:=h.2;unfold szK;omega)
section
variable {p:Nat→Prop} {h:Tr Bk} {v:B} {ty lo hi:Nat}
theorem OwnL.parts {t:List Prt} (ho:OwnL h v t.length (fun k=>prtB (clPt (ix t k))) 5 ty lo hi) (hp : ∀ b,lo≤b→b<hi→p b):HParts p h v (clTr t):=by
 have:=ho.hlp (p:=p) (fun _=>rfl) (by decide) (fun _ _=>rfl) hp
 have hl:(clTr t).length=t.length:=List.length_map ..
 unfold HParts
 rw [hl]
 exact this.congr fun k hk=>by rw [clTr,ix_map _ _ hk]
theorem OwnL.claims {c:List C5} (ho:OwnL h v c.length (fun k=>c5B (clCl (ix c k))) 5 ty lo hi) (hp : ∀ b,lo≤b→b<hi→p b):HClaims p h v (c.map clCl):=by
 have:=ho.hlp (p:=p) (fun _=>rfl) (by decide) (fun _ _=>rfl) hp
 have hl:(c.map clCl).length=c.length:=List.length_map ..
 unfold HClaims
 rw [hl]
 exact this.congr fun k hk=>by rw [ix_map _ _ hk]
def RTi (a:Agr) (u:B) (p:Nat→Prop) (h:Tr Bk) (t:Nat):Prop:=HParts p h u (clTr (ix a t))
def RAi (l:List Agr) (u:B) (p:Nat→Prop) (h:Tr Bk) (j:Nat):Prop:=HTiers p h u (clAg (ix l j))
theorem rk_T (a:Agr):RK (RTi a):=fun _ _ _ _ _ _ hp hk hq=>HLp.keep hp hk hq
theorem rk_A (l:List Agr):RK (RAi l):=fun _ _ _ _ _ _ hp hk hq=>HTiers.keep hp hk hq
theorem HTiers.kn {l:Agr} (hl:HTiers p h v l):v.kn=true:=hl.choose_spec.1.kn
theorem NU.tiers {U:Nat→B} {a:Agr} (ho:NU (RTi a) U h v a.length ty lo hi):HTiers (fun b=>lo≤b∧b<hi) h v (clAg a):=by
 have hl:(clAg a).length=a.length:=List.length_map ..
 refine ⟨U,?_,fun t ht=>?_⟩
 ·rw [hl]
  exact OwnL.hlp (NL.own ho) (fun _=>rfl) (by decide) (fun t ht=>by simp only [List.all_cons,List.all_nil,HLp.kn (ho.el (rk_T a) ht),Bool.and_self]) fun b h1 h2=>⟨h1,h2⟩
 ·rw [hl] at ht
  rw [clAg,ix_map _ _ ht]
  exact ho.el (rk_T a) ht
theorem NU.agrs {T:Nat→B} {l:List Agr} (ho:NU (RAi l) T h v l.length ty lo hi):HAgrs (fun b=>lo≤b∧b<hi) h v (l.map clAg):=by
 have hl:(l.map clAg).length=l.length:=List.length_map ..
 refine ⟨T,?_,fun t ht=>?_⟩
 ·rw [hl]
  exact OwnL.hlp (NL.own ho) (fun _=>rfl) (by decide) (fun t ht=>by simp only [List.all_cons,List.all_nil,HTiers.kn (ho.el (rk_A l) ht),Bool.and_self]) fun b h1 h2=>⟨h1,h2⟩
 ·rw [hl] at ht
  rw [ix_map _ _ ht]
  exact ho.el (rk_A l) ht
end
set_option maxRecDepth 10000 in
theorem clean_x {σ:St} (hW:WF σ) (r:R3) (hr:r.fits 1000000):CallX EN 129 [.agg [.bool r.n,.str r.s,.str r.d]] σ fun v σ'=>v=rV r.q∧Fr σ σ':=by
 refine call_fn (O_defaultcost_clean _ _) F_defaultcost_clean ?_
 unfold a_defaultcost_clean
 have hq:=fit_two hr (by decide)
 have hz:=Sz.zero
 have hz2:=hz.two
 simp (maxSteps:=9^9) (disch:=first|assumption|decide|omega) only [go_sem,z3,hq,hz,hz2]
 refine ⟨?_,fr⟩
 unfold rV
 rw [Rat.add_zero]
 rfl
def clC (l:List C5):Nat→List B:=fun k=>c5B (ix l k)
def famV {α:Type} (l:List α) (b:Nat):B:=if l.length=0 then .nils else .sl b 0 l.length .opn
theorem famV_pos {α:Type} {l:List α} (h:0<l.length) (b:Nat):famV l b = .sl b 0 l.length .opn:=if_neg (by omega)
theorem famV_len {α:Type} (l:List α) (b:Nat):lenV (.c (famV l b))=some (.c (.int .i64 (.ofNat l.length))):=by
 by_cases h:l.length=0
 ·unfold famV;rw [if_pos h,h];rfl
 ·rw [famV_pos (by omega)];rfl
theorem famV_kn {α:Type} (l:List α) (b:Nat):(famV l b).kn=true:=by
 by_cases h:l.length=0
 ·unfold famV;rw [if_pos h];rfl
 ·rw [famV_pos (by omega)];rfl
def estC (m:Nat→Rat) (cl:Nat→List C5) (bs:Nat→Nat) (A:Nat→B):Nat→List B:=fun i=>[.bool (rn (m i)),.str (rs (m i)),.str (rd (m i)),famV (cl i) (bs i),A i]
def Qt (lo hi eb n:Nat) (cl:Nat→List C5) (bs:Nat→Nat) (b:Nat):Prop:=lo≤b∧b<hi∧b≠eb∧∀ i,i<n→0<(cl i).length→b≠bs i
structure OGrp (h:Tr Bk) (dv:B) (n eb:Nat) (m:Nat→Rat) (cl:Nat→List C5) (bs:Nat→Nat) (A:Nat→B) (al:Nat→List Agr) (dl:List Dbt) (lo hi:Nat):Prop where
 e:h eb=some ⟨celR n (estC m cl bs A),some (5,76)⟩
 elo:lo≤eb
 ehi:eb<hi
 c : ∀ i,i<n→0<(cl i).length→h (bs i)=some ⟨celR (cl i).length (clC (cl i)),some (5,79)⟩∧lo≤bs i∧bs i<hi∧bs i≠eb
 inj : ∀ i j,i<n→j<n→0<(cl i).length→0<(cl j).length→bs i=bs j→i=j
 a : ∀ i,i<n→HAgrs (Qt lo hi eb n cl bs) h (A i) (al i)
 d:HDbts (Qt lo hi eb n cl bs) h dv dl
def estsOf (n:Nat) (m:Nat→Rat) (cl:Nat→List C5) (al:Nat→List Agr):List Est:=(List.range n).map fun i=>⟨ofQ (m i),cl i,al i⟩
theorem estsOf_len (n:Nat) (m:Nat→Rat) (cl:Nat→List C5) (al:Nat→List Agr):(estsOf n m cl al).length=n:=by unfold estsOf;simp
theorem estsOf_ix {n:Nat} (m:Nat→Rat) (cl:Nat→List C5) (al:Nat→List Agr) {i:Nat} (h:i<n):ix (estsOf n m cl al) i=⟨ofQ (m i),cl i,al i⟩:=by
 rw [ix_lt (by rw [estsOf_len];exact h)]
 unfold estsOf;simp
section
variable {h h' : Tr Bk} {dv:B} {n eb:Nat} {m:Nat→Rat} {cl:Nat→List C5} {bs:Nat→Nat} {A:Nat→B} {al:Nat→List Agr} {dl:List Dbt} {lo hi:Nat}
theorem HAgrs.kn {p:Nat→Prop} {v:B} {l:List Agr} (hl:HAgrs p h v l):v.kn=true:=hl.choose_spec.1.kn
theorem HDbts.kn {p:Nat→Prop} {v:B} {l:List Dbt} (hl:HDbts p h v l):v.kn=true:=hl.choose_spec.1.kn
theorem HEsts.kn {p:Nat→Prop} {v:B} {l:List Est} (hl:HEsts p h v l):v.kn=true:=hl.choose_spec.choose_spec.1.kn
theorem OGrp.ekn (ho:OGrp h dv n eb m cl bs A al dl lo hi) (i:Nat) (hi' : i<n):(estC m cl bs A i).all B.kn=true:=by
 unfold estC
 simp only [List.all_cons,List.all_nil,famV_kn,(ho.a i hi').kn,kn_bool,kn_str,Bool.and_self]
theorem OGrp.ldE (ho:OGrp h dv n eb m cl bs A al dl lo hi) {i:Nat} (hi' : i<n):ld h eb (0+i*5) 5 true=some (.agg (estC m cl bs A i)) :=
 cel_ld ho.e rfl (fun _=>rfl) (by decide) ho.ekn hi'
theorem OGrp.ldC (ho:OGrp h dv n eb m cl bs A al dl lo hi) {i:Nat} (hi' : i<n):ld h eb (i*5+3) 1 false=some (.c (famV (cl i) (bs i))):=by
 have:=ld_sub (ho.ldE hi') 3 1 false (by decide) (by decide)
 rw [Nat.zero_add] at this
 rw [this]
 unfold estC rdC
 simp [famV_kn]
theorem OGrp.ldA (ho:OGrp h dv n eb m cl bs A al dl lo hi) {i:Nat} (hi' : i<n):ld h eb (i*5+4) 1 false=some (.c (A i)):=by
 have:=ld_sub (ho.ldE hi') 4 1 false (by decide) (by decide)
 rw [Nat.zero_add] at this
 rw [this]
 unfold estC rdC
 simp [(ho.a i hi').kn]
theorem OGrp.grp (ho:OGrp h dv n eb m cl bs A al dl lo hi) (c:Cap):HGrp (fun b=>lo≤b∧b<hi) h (.sl eb 0 n c) dv ⟨estsOf n m cl al,dl⟩:=by
 refine ⟨⟨fun i=>famV (cl i) (bs i),A,?_,fun i hi'=>?_⟩,ho.d.keep (fun _ _=>rfl) fun b hb=>⟨hb.1,hb.2.1⟩⟩
 ·have h1:HLp (fun b=>lo≤b∧b<hi) h 5 (.sl eb 0 n c) n (estC m cl bs A):=cel_hlp c ho.e rfl ⟨ho.elo,ho.ehi⟩ (fun _=>rfl) (by decide) ho.ekn
  have e:(estsOf n m cl al).length=n:=estsOf_len ..
  show HLp _ h 5 _ (estsOf n m cl al).length _
  rw [e]
  exact h1.congr fun i hi'=>by rw [estsOf_ix m cl al hi'];rfl
 ·have hi' : i<n:=by rw [← estsOf_len n m cl al];exact hi'
  show HClaims _ h (famV (cl i) (bs i)) (ix (estsOf n m cl al) i).c∧HAgrs _ h (A i) (ix (estsOf n m cl al) i).a
  rw [estsOf_ix m cl al hi']
  refine ⟨?_,(ho.a i hi').keep (fun _ _=>rfl) fun b hb=>⟨hb.1,hb.2.1⟩⟩
  by_cases h0:(cl i).length=0
  ·exact .inl ⟨h0,by unfold famV;rw [if_pos h0]⟩
  ·obtain ⟨k1,k2,k3,-⟩:=ho.c i hi' (by omega)
   rw [famV_pos (by omega)]
   exact cel_hlp _ k1 rfl ⟨k2,k3⟩ (fun _=>rfl) (by decide) fun _ _=>rfl
theorem Qt.keep {cl' : Nat→List C5} (hc : ∀ i,i<n→(cl' i).length=(cl i).length) {b:Nat} (hq:Qt lo hi eb n cl bs b):Qt lo hi eb n cl' bs b :=
 ⟨hq.1,hq.2.1,hq.2.2.1,fun i h1 h2=>hq.2.2.2 i h1 (by rw [← hc i h1];exact h2)⟩
theorem OGrp.mono (ho:OGrp h dv n eb m cl bs A al dl lo hi) (hh : ∀ b,lo≤b→b<hi→h' b=h b) {hi' : Nat} (h2:hi≤hi'):OGrp h' dv n eb m cl bs A al dl lo hi' where
 e:=by rw [hh eb ho.elo ho.ehi];exact ho.e
 elo:=ho.elo
 ehi:=Nat.lt_of_lt_of_le ho.ehi h2
 c:=fun i h1 h3=>by
  obtain ⟨k1,k2,k3,k4⟩:=ho.c i h1 h3
  exact ⟨by rw [hh _ k2 k3];exact k1,k2,by omega,k4⟩
 inj:=ho.inj
 a:=fun i h1=>(ho.a i h1).keep (fun b hb=>hh b hb.1 hb.2.1) fun b hb=>⟨hb.1,Nat.lt_of_lt_of_le hb.2.1 h2,hb.2.2⟩
 d:=ho.d.keep (fun b hb=>hh b hb.1 hb.2.1) fun b hb=>⟨hb.1,Nat.lt_of_lt_of_le hb.2.1 h2,hb.2.2⟩
theorem OGrp.setC (ho:OGrp h dv n eb m cl bs A al dl lo hi) {i k:Nat} (hi' : i<n) (hk:k<(cl i).length) (x:C5) {cells:List B} (hc:cells=celR (cl i).length (updG (clC (cl i)) k (c5B x))) :
  OGrp (hset h (bs i) ⟨cells,some (5,79)⟩) dv n eb m (updF cl i ((cl i).set k x)) bs A al dl lo hi:=by
 have hpos:0<(cl i).length:=by omega
 obtain ⟨k1,k2,k3,k4⟩:=ho.c i hi' hpos
 have hlen : ∀ j,j<n→(updF cl i ((cl i).set k x) j).length=(cl j).length:=fun j _=>by
  unfold updF
  split
  ·next e=>rw [List.length_set,e]
  ·rfl
 have hfam : ∀ j,famV (updF cl i ((cl i).set k x) j) (bs j)=famV (cl j) (bs j):=fun j=>by
  unfold updF
  split
  ·next e=>unfold famV;rw [List.length_set,e]
  ·rfl
 refine ⟨?_,ho.elo,ho.ehi,fun j hj hp=>?_,fun a b ha hb pa pb e=>ho.inj a b ha hb (by rw [← hlen a ha];exact pa) (by rw [← hlen b hb];exact pb) e,fun j hj=>?_,?_⟩
 ·rw [hset_ne _ _ _ _ (Ne.symm k4),ho.e]
  congr 2
  refine cel_congr fun j _=>?_
  unfold estC
  rw [hfam]
 ·rw [hlen j hj] at hp
  by_cases e:j=i
  ·subst e
   rw [hset_get,hlen j hj,hc]
   refine ⟨?_,k2,k3,k4⟩
   congr 2
   refine cel_congr fun a ha=>?_
   unfold updG clC
   rw [updF_same]
   unfold ix
   rw [List.getD_eq_getElem?_getD,List.getD_eq_getElem?_getD,List.getElem?_set]
   by_cases e2:a=k
   ·subst e2
    rw [if_pos rfl,if_pos rfl,if_pos ha];rfl
   ·rw [if_neg e2,if_neg (Ne.symm e2)]
  ·obtain ⟨j1,j2,j3,j4⟩:=ho.c j hj hp
   rw [hset_ne _ _ _ _ (fun e2=>e (ho.inj j i hj hi' hp hpos e2)),updF_ne _ _ _ _ e]
   exact ⟨j1,j2,j3,j4⟩
 ·exact (ho.a j hj).keep (fun b hb=>hset_ne _ _ _ _ (hb.2.2.2 i hi' hpos)) fun b hb=>hb.keep hlen
 ·exact ho.d.keep (fun b hb=>hset_ne _ _ _ _ (hb.2.2.2 i hi' hpos)) fun b hb=>hb.keep hlen
end
def LateL (l l' : List C5):Prop:=l'.length=l.length∧∀ k,k<l.length→(ix l' k).h=(ix l k).h∧(ix l' k).a=(ix l k).a∧((ix l' k).r=(ix l k).r∨(ix l' k).r=6∨(ix l' k).r=7)
theorem LateL.refl (l:List C5):LateL l l:=⟨rfl,fun _ _=>⟨rfl,rfl,.inl rfl⟩⟩
theorem LateL.set {l l' : List C5} (hl:LateL l l') {k:Nat} {r:Int} (hr:r=6∨r=7):LateL l (l'.set k ⟨(ix l' k).h,r,(ix l' k).a⟩):=by
 refine ⟨by rw [List.length_set];exact hl.1,fun j hj=>?_⟩
 have h1:=hl.2 j hj
 have h0:=hl.1
 by_cases e:j=k
 ·subst e
  rw [show ix (l'.set j ⟨(ix l' j).h,r,(ix l' j).a⟩) j=⟨(ix l' j).h,r,(ix l' j).a⟩ by
   unfold ix;rw [List.getD_eq_getElem?_getD,List.getElem?_set];simp [show j<l'.length by omega]]
  exact ⟨h1.1,h1.2.1,.inr hr⟩
 ·rw [show ix (l'.set k ⟨(ix l' k).h,r,(ix l' k).a⟩) j=ix l' j by
   unfold ix;rw [List.getD_eq_getElem?_getD,List.getElem?_set,if_neg (Ne.symm e),List.getD_eq_getElem?_getD]]
  exact h1
section
variable {h h' : Tr Bk} {dv:B} {n eb:Nat} {m:Nat→Rat} {cl:Nat→List C5} {bs:Nat→Nat} {A:Nat→B} {al:Nat→List Agr} {dl:List Dbt} {lo hi:Nat}
theorem clC_wr (l:List C5) {k:Nat} (hk:k<l.length) (r:Int):wrC (celR l.length (clC l)) (k*5+1) [.int .i64 r]=some (celR l.length (updG (clC l) k (c5B ⟨(ix l k).h,r,(ix l k).a⟩))):=by
 rw [wr_cel (e:=5) (fun _=>rfl) hk (by simp)]
 rfl
set_option maxRecDepth 10000 in
theorem late_x {σ0 σ:St} (hW:WF σ) (hf0:Fr σ0 σ) (ho:OGrp σ.h dv n eb m cl bs A al dl lo hi) (hlo:σ0.nxt≤lo) (hhi:hi≤σ.nxt) (hn:n≤1000) (hcl : ∀ i,i<n→(cl i).length≤1000) (bits:Nat) (hbits:bits≤65535) :
  CallX EN 34 [.agg [.sl eb 0 n .opn,dv],.c (.int .u16 (.ofNat bits))] σ fun r σ'=>r = .agg [.sl eb 0 n .opn,dv]∧(∃ cl',OGrp σ'.h dv n eb m cl' bs A al dl lo hi∧∀ i,i<n→LateL (cl i) (cl' i))∧Fr σ0 σ'∧σ.nxt≤σ'.nxt:=by
 refine call_fn (O_l0_Late _ _) F_l0_Late ?_
 unfold a_l0_Late
 have hdk:=ho.d.kn
 have hle0:=hf0.le
 simp (maxSteps:=9^9) (disch:=first|assumption|decide|omega) only [go_sem,z3,hdk]
 have hlt : ∀ b,lo≤b→b<hi→b<σ.nxt:=fun b _ hb=>by omega
 refine run_loop (fun q tm σ'=>∃ i k cl',q=n - i∧i≤n∧k≤i*1000∧Tr.getV tm 1 = .c (.int .u16 (.ofNat bits))∧Tr.getV tm 2 = .c (.ptr σ.nxt 0)∧Tr.getV tm 4 = .c (.ptr (σ.nxt+1) 0)∧Tr.getV tm 5 = .c (.int .i64 (.ofNat k))∧Tr.getV tm 10 = .c (.int .i64 (.ofNat n))∧Tr.getV tm 11 = .c (.int .i64 (.ofNat i))
  ∧ σ'.h σ.nxt=some ⟨[.sl eb 0 n .opn,dv],none⟩∧σ'.h (σ.nxt+1)=some ⟨[.nils,.nils],none⟩∧OGrp σ'.h dv n eb m cl' bs A al dl lo hi∧(∀ i,i<n→LateL (cl i) (cl' i))∧Fr σ0 σ'∧σ.nxt+2≤σ'.nxt) n ?_ ?_
 ·refine ⟨0,0,cl,by omega,by omega,by omega,?_⟩
  simp (maxSteps:=9^9) (disch:=first|assumption|decide|omega) only [go_sem,z3,true_and]
  refine ⟨?_,fun i _=>LateL.refl _,?_,by omega⟩
  ·exact ho.mono (fun b h1 h2=>by have:=hlt b h1 h2;rw [hset_ne _ _ _ _ (by omega),hset_ne _ _ _ _ (by omega)]) (Nat.le_refl _)
  ·exact fr
 ·rintro q tm σ' ⟨i,k,cl',rfl,hi',hk,t1,t2,t4,t5,t10,t11,q1,q2,ho',hL,hf,hn2⟩
  simp (maxSteps:=9^9) (disch:=first|assumption|decide|omega) only [go_sem,z3,t1,t2,t4,t5,t10,t11,lt_ofNat]
  refine ifV_dec (fun hlt2=>?_) (fun hlt2=>?_)
  ·have hlC:=ho'.ldC hlt2
   have hfl:=famV_len (cl' i) (bs i)
   have hfk:=famV_kn (cl' i) (bs i)
   simp (maxSteps:=9^9) (disch:=first|assumption|decide|omega) only [go_sem,z3,t1,t2,t4,t5,t10,t11,ld_blk q1,hdk,hlC,hfl]
   refine run_loop (fun q tm σ3=>∃ c k cl3,q=(cl' i).length - c∧c≤(cl' i).length∧k≤i*1000+c∧Tr.getV tm 1 = .c (.int .u16 (.ofNat bits))∧Tr.getV tm 2 = .c (.ptr σ.nxt 0)∧Tr.getV tm 4 = .c (.ptr (σ.nxt+1) 0)∧Tr.getV tm 5 = .c (.int .i64 (.ofNat k))∧Tr.getV tm 6 = .c (.int .i64 (.ofNat i))∧Tr.getV tm 10 = .c (.int .i64 (.ofNat n))∧Tr.getV tm 11 = .c (.int .i64 (.ofNat i))
    ∧ Tr.getV tm 20 = .c (.int .i64 (.ofNat (cl' i).length))∧Tr.getV tm 21 = .c (.int .i64 (.ofNat c))
    ∧ σ3.h σ.nxt=some ⟨[.sl eb 0 n .opn,dv],none⟩∧σ3.h (σ.nxt+1)=some ⟨[.nils,.nils],none⟩∧OGrp σ3.h dv n eb m cl3 bs A al dl lo hi∧(∀ i,i<n→LateL (cl i) (cl3 i))∧(cl3 i).length=(cl' i).length∧Fr σ0 σ3∧σ.nxt+2≤σ3.nxt) (cl' i).length ?_ ?_
   ·refine ⟨0,k,cl',by omega,by omega,by omega,?_⟩
    simp (maxSteps:=9^9) (disch:=first|assumption|decide|omega) only [go_sem,z3,t1,t2,t4,t5,t10,t11,true_and]
    exact ⟨q1,q2,ho',hL,hf,hn2⟩
   ·rintro q tm3 σ3 ⟨c,k3,cl3,rfl,hc,hk3,t1,t2,t4,t5,t6,t10,t11,t20,t21,q1,q2,ho3,hL3,hl3,hf3,hn3⟩
    have hci:(cl' i).length≤1000:=by rw [(hL i hlt2).1];exact hcl i hlt2
    have hib:i*1000≤1000000:=by
     have:=Nat.mul_le_mul_right 1000 (show i≤1000 by omega)
     omega
    simp (maxSteps:=9^9) (disch:=first|assumption|decide|omega) only [go_sem,z3,t1,t2,t4,t5,t6,t10,t11,t20,t21,lt_ofNat]
    refine ifV_dec (fun hlc=>?_) (fun hlc=>?_)
    ·have hlC3:=ho3.ldC hlt2
     rw [famV_pos (by omega)] at hlC3
     have hpos:0<(cl3 i).length:=by omega
     obtain ⟨b1,b2,b3,b4⟩:=ho3.c i hlt2 hpos
     have hmod:k3%8<8:=Nat.mod_lt _ (by decide)
     have hk4:k3≤2000000:=by omega
     have hq0:=div_le' bits (2 ^ min (2*(k3%8)) 16) 65535 hbits
     simp (maxSteps:=9^9) (disch:=first|assumption|decide|omega) only [go_sem,z3,t1,t2,t4,t5,t6,t10,t11,t20,t21]
     refine ifV_dec (fun hq=>?_) (fun hq=>?_)
     ·have hw:=clC_wr (cl3 i) (k:=c) (by omega) (.ofNat 6)
      have hlb:bs i<σ3.nxt:=by omega
      simp (maxSteps:=9^9) (disch:=first|assumption|decide|omega) only [go_sem,z3,t1,t2,t4,t5,t6,t10,t11,t20,t21,ld_blk q1,hdk,hlC3,sto_blk b1,hw]
      refine ⟨(cl' i).length - (c+1),by omega,c+1,k3+1,_,rfl,by omega,by omega,rfl,rfl,?_,?_,ho3.setC hlt2 (by omega) _ rfl,?_,?_,?_,by omega⟩
      ·exact q1
      ·exact q2
      ·intro j hj
       unfold updF
       split
       ·next e=>subst e;exact (hL3 j hj).set (.inl rfl)
       ·exact hL3 j hj
      ·rw [updF_same,List.length_set];exact hl3
      ·exact fr
     ·simp (maxSteps:=9^9) (disch:=first|assumption|decide|omega) only [go_sem,z3,t1,t2,t4,t5,t6,t10,t11,t20,t21]
      refine ifV_dec (fun hq2=>?_) (fun hq2=>?_)
      ·have hw:=clC_wr (cl3 i) (k:=c) (by omega) (.ofNat 7)
       have hlb:bs i<σ3.nxt:=by omega
       simp (maxSteps:=9^9) (disch:=first|assumption|decide|omega) only [go_sem,z3,t1,t2,t4,t5,t6,t10,t11,t20,t21,ld_blk q1,hdk,hlC3,sto_blk b1,hw]
       refine ⟨(cl' i).length - (c+1),by omega,c+1,k3+1,_,rfl,by omega,by omega,rfl,rfl,?_,?_,ho3.setC hlt2 (by omega) _ rfl,?_,?_,?_,by omega⟩
       ·exact q1
       ·exact q2
       ·intro j hj
        unfold updF
        split
        ·next e=>subst e;exact (hL3 j hj).set (.inr rfl)
        ·exact hL3 j hj
       ·rw [updF_same,List.length_set];exact hl3
       ·exact fr
      ·simp (maxSteps:=9^9) (disch:=first|assumption|decide|omega) only [go_sem,z3,t1,t2,t4,t5,t6,t10,t11,t20,t21]
       exact ⟨(cl' i).length - (c+1),by omega,c+1,k3+1,cl3,rfl,by omega,by omega,rfl,rfl,q1,q2,ho3,hL3,hl3,hf3,by omega⟩
    ·have:c=(cl' i).length:=by omega
     subst this
     simp (maxSteps:=9^9) (disch:=first|assumption|decide|omega) only [go_sem,z3,t1,t2,t4,t5,t6,t10,t11,t20,t21]
     exact ⟨n - (i+1),by omega,i+1,k3,cl3,rfl,by omega,by omega,rfl,rfl,q1,q2,ho3,hL3,hf3,hn3⟩
  ·have:i=n:=by omega
   subst this
   simp (maxSteps:=9^9) (disch:=first|assumption|decide|omega) only [go_sem,z3,t2,t4,ld_blk q1,hdk,sto_blk q2]
   refine ⟨⟨cl',ho'.mono (fun b h1 h2=>?_) (Nat.le_refl _),hL⟩,?_⟩
   ·have:=hlt b h1 h2
    rw [hset_ne _ _ _ _ (by omega)]
   ·exact ⟨fr,by omega⟩
end
end Go.Proofs.Xe
