/- Texts of this work, joined: AsP, Inv, InvE. -/
import Derived.Test.YthodilggomedgaaDoorAsN
import Derived.Lib.AppendIntMem
import Derived.Lib.ItoaNum
import Derived.Test.YthodilggomedgaaDoorProg
import Derived.Below
import Derived.Test.YthodilggomedgaaDoorShort
section
namespace Go.Proofs.YthodilggomedgaaDoor.As
open Go.RowKit Go.Extern.Stop Go.Stop Go.Extern Go.Proofs.YthodilggomedgaaDoorW.PrintWords Go.Proofs.YthodilggomedgaaDoor.Mq
set_option linter.unusedVariables false
set_option linter.unusedSimpArgs false
/-- api.Place of a Fault: at which byte. -/
theorem place_F (n k : Int) (w : World) (hg : ErrT w) : Calls Tryd.prog 10 #[.iface 48 (.agg #[.int .i64 n, .int .i64 k])] w fun e w' => e = .returned (.int .i64 k) ∧ Below w.heap.size w w' := by
  have hlt := World.block_lt_of_cell? w _ hg
  have hg' : ErrT (w.alloc (.cells #[.int .i64 0, .int .i64 0] 48)) := (World.cell?_alloc_lt _ _ _ hlt).trans hg
  have hb := heap_alloc_new w (.cells #[.int .i64 0, .int .i64 0] 48)
  have hB : Below w.heap.size w (w.alloc (.cells #[.int .i64 0, .int .i64 0] 48)) := (Below.refl _ w).alloc (Nat.le_refl _) _
  go_enter Tryd.func10, Tryd.ntmps10
  go_wp2_with (first
    | (go_at_call 17; refine (as_FF n k w.heap.size (.int .i64 0) (.int .i64 0) _ hg' hb).mono ?_; rintro e W ⟨rfl, hW⟩; have hb2 := blk_set (blk_set (blk_alloc (blk_alloc (blk_alloc (blk_alloc hb (.cells #[.pointer (some ⟨w.heap.size, 0, none⟩)] 50)) (.cells #[hd 50, .pointer (some ⟨(w.alloc (.cells #[.int .i64 0, .int .i64 0] 48)).heap.size, 0, none⟩), .int .u64 150] 60)) (.cells #[hd 50, .pointer (some ⟨(w.alloc (.cells #[.int .i64 0, .int .i64 0] 48)).heap.size, 0, none⟩), .int .u64 150] 60)) (.cells #[.int .i64 n, .int .i64 k] 48)) 0 (.int .i64 n)) 1 (.int .i64 k); rw [← hW] at hb2; have x0 : W.cell? ⟨w.heap.size, 0, none⟩ = some (.int .i64 n) := blk_cell hb2 0; have x1 : W.cell? ⟨w.heap.size, 1, none⟩ = some (.int .i64 k) := blk_cell hb2 1; have hbW : Below w.heap.size w W := (by rw [hW]; exact below_set (below_set ((((hB.alloc (by simp) _).alloc (by simp; omega) _).alloc (by simp; omega) _).alloc (by simp; omega) _) (Nat.le_refl _)) (Nat.le_refl _)); clear hW))
  go_ret
  exact ⟨rfl, hbW⟩
theorem place_nil (w : World) : Calls Tryd.prog 10 #[.nilIface] w fun e w' => e = .returned (.int .i64 (-1)) ∧ Below w.heap.size w w' := by
  go_enter Tryd.func10, Tryd.ntmps10
  go_wp2_with (first | (go_at_call 17; refine (as_nil _ _).mono ?_; rintro e W ⟨rfl, rfl⟩))
  go_ret
  exact ⟨rfl, (Below.refl _ w).alloc (Nat.le_refl _) _⟩
theorem wrap_calls (n k : Int) (w : World) : Calls Tryd.prog 14 #[.int .i64 n, .int .i64 k] w fun e w' => e = .returned (.iface 48 (.agg #[.int .i64 n, .int .i64 k])) ∧ Below w.heap.size w w' := by
  go_enter Tryd.func14, Tryd.ntmps14
  go_wp2
  go_ret
  exact ⟨rfl, Below.refl _ w⟩
end Go.Proofs.YthodilggomedgaaDoor.As
end
section
namespace Go.Proofs.YthodilggomedgaaDoor.Inv
open Go.RowKit
/-- The cells of the library's own variables. -/
structure Inv (w : World) : Prop where
  mx : ∃ m, w.cell? ⟨3, 0, none⟩ = some (.int .i64 m)
  tab : Lib.TabIs Tryd.prog w "internal/strconv.uint64pow10" .u64 Lib.pow10Tab
  syn : ∃ ev, w.cell? ⟨1, 0, none⟩ = some ev ∧ (ev = .nilIface ∨ ∃ te pe, ev = .iface te pe)
  rng : ∃ ev, w.cell? ⟨2, 0, none⟩ = some ev ∧ (ev = .nilIface ∨ ∃ te pe, ev = .iface te pe)
theorem cell_below {w w' : World} {a : Addr} {v : Value} (h : w.cell? a = some v) (hb : Below w.heap.size w w') : w'.cell? a = some v := by
  have hlt : a.block < w.heap.size := World.block_lt_of_cell? w _ h
  unfold World.cell? at *
  rw [hb.block _ hlt]
  exact h
theorem Inv.below {w w' : World} (h : Inv w) (hb : Below w.heap.size w w') : Inv w' where
  mx := let ⟨m, hm⟩ := h.mx; ⟨m, cell_below hm hb⟩
  tab := Lib.tabBelow_of_tabIs h.tab w' hb
  syn := let ⟨m, hm, h2⟩ := h.syn; ⟨m, cell_below hm hb, h2⟩
  rng := let ⟨m, hm, h2⟩ := h.rng; ⟨m, cell_below hm hb, h2⟩
theorem Inv.alloc {w : World} (h : Inv w) (o : Obj) : Inv (w.alloc o) := h.below ((Below.refl _ _).alloc (Nat.le_refl _) o)
theorem Inv.drewN {w : World} (h : Inv w) (m : Nat) : Inv (w.drewN m) := h.below ⟨rfl, rfl, rfl, Nat.le_refl _, fun _ _ => rfl⟩
theorem Inv.drew {w : World} (h : Inv w) : Inv w.drew := h.below ⟨rfl, rfl, rfl, Nat.le_refl _, fun _ _ => rfl⟩
open Go.Proofs.YthodilggomedgaaDoor.Short Go.Proofs.YthodilggomedgaaDoorW.PrintWords Go.Proofs.YthodilggomedgaaDoorW.PrintLast in
theorem ivb {w W : World} (h : Inv w) (hb : Below w.heap.size w W := by repeat (first | (with_reducible first | exact HB.out | apply below_alloc | apply pw_below_drewN | apply below_drew1 | refine below_set ?_ (Aside0.out (by with_reducible assumption))) | exact HB.out)) : Inv W := h.below hb
end Go.Proofs.YthodilggomedgaaDoor.Inv
end
section
namespace Go.Proofs.YthodilggomedgaaDoor.InvE
open Go.RowKit
structure Inv (w : World) : Prop where
  base : Go.Proofs.YthodilggomedgaaDoor.Inv.Inv w
  et : Go.Proofs.YthodilggomedgaaDoor.As.ErrT w
theorem Inv.below {w w' : World} (h : Inv w) (hb : Below w.heap.size w w') : Inv w' := ⟨h.base.below hb, Go.Proofs.YthodilggomedgaaDoor.Inv.cell_below h.et hb⟩
theorem Inv.alloc {w : World} (h : Inv w) (o : Obj) : Inv (w.alloc o) := h.below ((Below.refl _ _).alloc (Nat.le_refl _) o)
theorem Inv.drewN {w : World} (h : Inv w) (m : Nat) : Inv (w.drewN m) := h.below ⟨rfl, rfl, rfl, Nat.le_refl _, fun _ _ => rfl⟩
theorem Inv.drew {w : World} (h : Inv w) : Inv w.drew := h.below ⟨rfl, rfl, rfl, Nat.le_refl _, fun _ _ => rfl⟩
open Go.Proofs.YthodilggomedgaaDoor.Short Go.Proofs.YthodilggomedgaaDoorW.PrintWords Go.Proofs.YthodilggomedgaaDoorW.PrintLast in
theorem ivb {w W : World} (h : Inv w) (hb : Below w.heap.size w W := by repeat (first | (with_reducible first | exact HB.out | apply below_alloc | apply pw_below_drewN | apply below_drew1 | refine below_set ?_ (Aside0.out (by with_reducible assumption))) | exact HB.out)) : Inv W := h.below hb
end Go.Proofs.YthodilggomedgaaDoor.InvE
end
