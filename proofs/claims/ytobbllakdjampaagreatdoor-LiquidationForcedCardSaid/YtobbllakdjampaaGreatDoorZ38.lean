/- The arguments of LiquidationForced, opened: []([3]uint16). -/
import Derived.Test.YtobbllakdjampaaGreatDoorZ16
import Derived.Test.YtobbllakdjampaaGreatDoorZ33

set_option linter.unusedSimpArgs false
set_option linter.unusedVariables false
namespace Go.Proofs.Ins
open Go Go.RowKit Go.ChangeShapes Go.WideShapes Go.ChangeAt Go.Deep Go.Proofs.YtobbllakdjampaaGreatDoor

section
variable {H : Type} {enc : TypeId × Value → H} {W : World}
set_option maxRecDepth 100000 in
/-- Three numbers, opened. -/
theorem arr3_cells {sp : Nat → Bool} {held : Bool} {fuel : Nat} {cs : List Value} {x : DataW H × List MemPlace} (h : DataW.trod enc Tryz.prog W 0 sp held fuel 87 cs = some x) :
    ∃ m : Nat → Nat, cs = [.int .u16 (m 0 : Int), .int .u16 (m 1 : Int), .int .u16 (m 2 : Int)] ∧ ∀ j, m j ≤ 65535 := by
  obtain ⟨xs, n, rfl, rfl, hl, hx, hf⟩ := DataW.trod_array Tryz.underlying87 h
  have hc : Tryz.prog.cellsOf 87 = 3 := by kernel_rfl
  have hc0 : Tryz.prog.cellsOf 47 = 1 := by kernel_rfl
  simp only [hc0, Nat.mul_one] at hf
  rw [hc] at hl
  match cs, hl, xs, hx with
  | [c0, c1, c2], _, [x0, x1, x2], _ =>
    obtain ⟨m0, e0, l0⟩ := u16_cells (show DataW.trod enc Tryz.prog W 0 sp held n 47 [c0] = some x0 from hf 0 (by omega))
    obtain ⟨m1, e1, l1⟩ := u16_cells (show DataW.trod enc Tryz.prog W 0 sp held n 47 [c1] = some x1 from hf 1 (by omega))
    obtain ⟨m2, e2, l2⟩ := u16_cells (show DataW.trod enc Tryz.prog W 0 sp held n 47 [c2] = some x2 from hf 2 (by omega))
    simp at e0 e1 e2
    subst e0 e1 e2
    exact ⟨fun j => if j = 0 then m0 else if j = 1 then m1 else m2, rfl, fun j => by dsimp only; split; exact l0; split; exact l1; exact l2⟩

set_option maxRecDepth 100000 in
theorem arg_arrs3 {sp : Nat → Bool} {held : Bool} {fuel : Nat} {cs : List Value} {x : DataW H × List MemPlace} (h : DataW.trod enc Tryz.prog W 0 sp held fuel 55 cs = some x) (hL : Light Tryz.prog 55 x.1) :
    ∃ a n cap, ∃ L : Nat → Nat → Nat, cs = [.slice a n cap] ∧ n ≤ 140737488351232 ∧ SArg W a n 3 (u3c L) ∧ ∀ i j, i < n → L i j ≤ 65535 := by
  obtain ⟨a, n, cap, C, rfl, hn, hs, hx⟩ := open_rows (k := 3) Tryz.underlying55 (by kernel_rfl) (by omega) (of_decide_eq_true (by kernel_rfl)) h hL
  obtain ⟨L, hLL⟩ := choose_lt (α := Nat → Nat) (p := fun i m => C i = [.int .u16 (m 0 : Int), .int .u16 (m 1 : Int), .int .u16 (m 2 : Int)] ∧ ∀ j, m j ≤ 65535) (fun i hi => by
    obtain ⟨_, n, y, h1, h2⟩ := hx i hi
    exact arr3_cells h1)
  exact ⟨a, n, cap, L, rfl, hn, hs.congr fun i hi => (hLL i hi).1, fun i j hi => (hLL i hi).2 j⟩

set_option maxRecDepth 100000 in
theorem v_arrs3 {r : Reach} {b : Nat} {v : Value} {d : DataW H} {p : List MemPlace} {sp : Nat → Bool} {held : Bool} (hv : Value.okWide Tryz.prog W r b 55 v) (h : DataW.Trod enc Tryz.prog W 0 sp held 55 v d p) (hL : Light Tryz.prog 55 d) :
    ∃ a n c, ∃ L : Nat → Nat → Nat, v = .slice a n c ∧ n ≤ 140737488351232 ∧ SArg W a n 3 (u3c L) ∧ ∀ i j, i < n → L i j ≤ 65535 := by
  obtain ⟨a, n, c, f, rfl, h9⟩ := val_slice Tryz.underlying55 hv h
  obtain ⟨a', n', c', L, e, h1, h2, h3⟩ := arg_arrs3 h9 hL
  simp only [List.cons.injEq, Value.slice.injEq, and_true] at e
  obtain ⟨rfl, rfl, rfl⟩ := e
  exact ⟨_, _, _, L, rfl, h1, h2, h3⟩
end
end Go.Proofs.Ins
