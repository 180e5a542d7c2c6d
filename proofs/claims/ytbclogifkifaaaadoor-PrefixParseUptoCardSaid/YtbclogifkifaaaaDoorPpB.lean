/- Bytes that a string is made to_, written, and back: what the worlds behind them hold. -/
import Derived.Test.YtbclogifkifaaaaDoorShort
namespace Go.Proofs.YtbclogifkifaaaaDoor.PpB
open Go.RowKit Go.Proofs.YtbclogifkifaaaaDoor.Short Go.Proofs.YtbclogifkifaaaaDoorW.PrintWords Go.Proofs.YtbclogifkifaaaaDoorW.PrintLast Go.Proofs.YtbclogifkifaaaaDoorW.PrintMore
set_option linter.unusedVariables false
theorem bytes_frozen (W : World) (e : TypeId) (s : ByteArray) (j : Nat) (hj : j < s.size) : (Lib.bytesWorld W e s).frozen? ⟨W.heap.size, j, none⟩ = false := by
  have h : s.size ≤ (Lib.bytesCells W e s).size := by
    unfold Lib.bytesCells
    rw [Array.size_append, Array.size_map]
    exact Nat.le_add_right _ _
  simp [World.frozen?, Lib.bytesWorld_at_new]
  omega
/-- The row's cells are xs. -/
def Bs (w : World) (g n : Nat) (xs : List Int) : Prop := xs.length = n ∧ n ≤ 9223372036854775807 ∧ ∀ j, j < n → w.cell? ⟨g, j, none⟩ = some (.int .u8 (xs.getD j 0))
theorem bs_reads {w : World} {g n : Nat} {xs : List Int} (h : Bs w g n xs) : ReadsInt w .u8 (some ⟨g, 0, none⟩) n xs := by
  refine ⟨h.1, h.2.1, fun _ => ⟨_, rfl, fun j hj => ?_⟩⟩
  rw [add_plain]
  exact h.2.2 j hj
theorem bs_new (W : World) (e : TypeId) (s : ByteArray) (hs : s.size ≤ 9223372036854775807) : Bs (Lib.bytesWorld W e s) W.heap.size s.size (bytesOf s) := by
  obtain ⟨h1, h2, h3⟩ := bytes_reads W e s hs
  refine ⟨h1, h2, fun j hj => ?_⟩
  obtain ⟨ad, e, hc⟩ := h3 (by omega)
  obtain rfl := Option.some.inj e
  have := hc j hj
  rw [add_plain] at this
  exact this
theorem bs_set {w : World} {g n : Nat} {xs : List Int} (h : Bs w g n xs) (i : Nat) (hi : i < n) (c : Int) : Bs (w.setCell ⟨g, i, none⟩ (.int .u8 c)) g n (xs.set i c) := by
  refine ⟨by rw [List.length_set]; exact h.1, h.2.1, fun j hj => ?_⟩
  have hx := h.1
  by_cases e : i = j
  · subst e
    rw [World.cell?_setCell_same _ _ _ (h.2.2 i hi), List.getD_eq_getElem?_getD, List.getElem?_set_self (by omega)]
    rfl
  · rw [World.cell?_setCell_other _ _ _ _ (by intro q; injection q with q1 q2; exact e q2), h.2.2 j hj, List.getD_eq_getElem?_getD, List.getD_eq_getElem?_getD, List.getElem?_set_ne e]
end Go.Proofs.YtbclogifkifaaaaDoor.PpB
