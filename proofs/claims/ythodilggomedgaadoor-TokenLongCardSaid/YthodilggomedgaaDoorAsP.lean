/- api.Number, api.Place, api.Wrap by their contracts. -/
import Derived.Test.YthodilggomedgaaDoorAsN
namespace Go.Proofs.YthodilggomedgaaDoor.As
open Go.RowKit Go.Extern.Stop Go.Stop Go.Extern Go.Proofs.YthodilggomedgaaDoorW.PrintWords Go.Proofs.YthodilggomedgaaDoor.Mq
set_option linter.unusedVariables false
set_option linter.unusedSimpArgs false
/-- .. of a Fault: what is wrong. -/
theorem number_F (n k : Int) (w : World) (hg : ErrT w) : Calls Tryd.prog 12 #[.iface 48 (.agg #[.int .i64 n, .int .i64 k])] w fun e w' => e = .returned (.int .i64 n) ∧ Below w.heap.size w w' := by
  have hlt := World.block_lt_of_cell? w _ hg
  have hg' : ErrT (w.alloc (.cells #[.int .i64 0] 38)) := (World.cell?_alloc_lt _ _ _ hlt).trans hg
  have hb := heap_alloc_new w (.cells #[.int .i64 0] 38)
  have hB : Below w.heap.size w (w.alloc (.cells #[.int .i64 0] 38)) := (Below.refl _ w).alloc (Nat.le_refl _) _
  go_enter Tryd.func12, Tryd.ntmps12
  go_wp2_with (first
    | (go_at_call 17; refine (as_FE n k w.heap.size (.int .i64 0) _ hg' hb).mono ?_; rintro e W ⟨rfl, hW⟩; have hb2 := blk_set (blk_alloc (blk_alloc (blk_alloc (blk_alloc (blk_alloc hb (.cells #[.pointer (some ⟨w.heap.size, 0, none⟩)] 51)) (.cells #[hd 51, .pointer (some ⟨(w.alloc (.cells #[.int .i64 0] 38)).heap.size, 0, none⟩), .int .u64 150] 60)) (.cells #[hd 51, .pointer (some ⟨(w.alloc (.cells #[.int .i64 0] 38)).heap.size, 0, none⟩), .int .u64 150] 60)) (.cells #[.int .i64 n, .int .i64 k] 48)) (.cells #[.int .i64 n] 38)) 0 (.int .i64 n); rw [← hW] at hb2; have x0 : W.cell? ⟨w.heap.size, 0, none⟩ = some (.int .i64 n) := blk_cell hb2 0; have hbW : Below w.heap.size w W := (by rw [hW]; exact below_set (((((hB.alloc (by simp) _).alloc (by simp; omega) _).alloc (by simp; omega) _).alloc (by simp; omega) _).alloc (by simp; omega) _) (Nat.le_refl _)); clear hW))
  go_ret
  exact ⟨rfl, hbW⟩
/-- api.Place of a Fault: at which byte. -/
theorem place_F (n k : Int) (w : World) (hg : ErrT w) : Calls Tryd.prog 10 #[.iface 48 (.agg #[.int .i64 n, .int .i64 k])] w fun e w' => e = .returned (.int .i64 k) ∧ Below w.heap.size w w' := by
  have hlt := World.block_lt_of_cell? w _ hg
  have hg' : ErrT (w.alloc (.cells #[.int .i64 0, .int .i64 0] 48)) := (World.cell?_alloc_lt _ _ _ hlt).trans hg
  have hb := heap_alloc_new w (.cells #[.int .i64 0, .int .i64 0] 48)
  have hB : Below w.heap.size w (w.alloc (.cells #[.int .i64 0, .int .i64 0] 48)) := (Below.refl _ w).alloc (Nat.le_refl _) _
  go_enter Tryd.func10, Tryd.ntmps10
  go_wp2_with (first
    | (go_at_call 17; refine (as_FF n k w.heap.size (.int .i64 0) (.int .i64 0) _ hg' hb).mono ?_; rintro e W ⟨rfl, hW⟩; have hb2 := blk_set (blk_set (blk_alloc (blk_alloc (blk_alloc (blk_alloc hb (.cells #[.pointer (some ⟨w.heap.size, 0, none⟩)] 50)) (.cells #[hd 50, .pointer (some ⟨(w.alloc (.cells #[.int .i64 0, .int .i64 0] 48)).heap.size, 0, none⟩), .int .u64 150] 60)) (.cells #[hd 50, .pointer (some ⟨(w.alloc (.cells #[.int .i64 0, .int .i64 0] 48)).heap.size, 0, none⟩), .int .u64 150] 60)) (.cells #[.int .i64 n, .int .i64 k] 48)) 0 (.int .i64 n)) 1 (.int .i64 k); rw [← hW] at hb2; have x0 : W.cell? ⟨w.heap.size, 0, none⟩ = some (.int .i64 n) := blk_cell hb2 0; have x1 : W.cell? ⟨w.heap.size, 1, none⟩ = some (.int .i64 k) := blk_cell hb2 1; have hbW : Below w.heap.size w W := (by rw [hW]; exact below_set (below_set ((((hB.alloc (by simp) _).alloc (by simp; omega) _).alloc (by simp; omega) _).alloc (by simp; omega) _) (Nat.le_refl _)) (Nat.le_refl _)); clear hW))
  go_ret
  exact ⟨rfl, hbW⟩
theorem number_nil (w : World) : Calls Tryd.prog 12 #[.nilIface] w fun e w' => e = .returned (.int .i64 0) ∧ Below w.heap.size w w' := by
  go_enter Tryd.func12, Tryd.ntmps12
  go_wp2_with (first | (go_at_call 17; refine (as_nil _ _).mono ?_; rintro e W ⟨rfl, rfl⟩))
  go_ret
  exact ⟨rfl, (Below.refl _ w).alloc (Nat.le_refl _) _⟩
theorem place_nil (w : World) : Calls Tryd.prog 10 #[.nilIface] w fun e w' => e = .returned (.int .i64 (-1)) ∧ Below w.heap.size w w' := by
  go_enter Tryd.func10, Tryd.ntmps10
  go_wp2_with (first | (go_at_call 17; refine (as_nil _ _).mono ?_; rintro e W ⟨rfl, rfl⟩))
  go_ret
  exact ⟨rfl, (Below.refl _ w).alloc (Nat.le_refl _) _⟩
theorem wrap_calls (n k : Int) (w : World) : Calls Tryd.prog 14 #[.int .i64 n, .int .i64 k] w fun e w' => e = .returned (.iface 48 (.agg #[.int .i64 n, .int .i64 k])) ∧ Below w.heap.size w w' := by
  go_enter Tryd.func14, Tryd.ntmps14
  go_wp2
  go_ret
  exact ⟨rfl, Below.refl _ w⟩
end Go.Proofs.YthodilggomedgaaDoor.As
