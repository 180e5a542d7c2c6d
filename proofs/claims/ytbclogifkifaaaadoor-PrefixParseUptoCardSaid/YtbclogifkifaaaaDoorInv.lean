/- What the library's functions read of the world: kept by all that stays above it. -/
import Derived.Lib.AppendIntMem
import Derived.Lib.ItoaNum
import Derived.Test.YtbclogifkifaaaaDoorProg
import Derived.Below
import Derived.Test.YtbclogifkifaaaaDoorShort
namespace Go.Proofs.YtbclogifkifaaaaDoor.Inv
open Go.RowKit
/-- The cells of the library's own variables. -/
structure Inv (w : World) : Prop where
  mx : ∃ m, w.cell? ⟨0, 0, none⟩ = some (.int .i64 m)
  tab : Lib.TabIs Tryd.prog w "internal/strconv.uint64pow10" .u64 Lib.pow10Tab
  syn : ∃ ev, w.cell? ⟨1, 0, none⟩ = some ev ∧ (ev = .nilIface ∨ ∃ te pe, ev = .iface te pe)
  rng : ∃ ev, w.cell? ⟨2, 0, none⟩ = some ev ∧ (ev = .nilIface ∨ ∃ te pe, ev = .iface te pe)
theorem cell_below {w w' : World} {a : Addr} {v : Value} (h : w.cell? a = some v) (hb : Below w.heap.size w w') : w'.cell? a = some v := by
  have hlt : a.block < w.heap.size := World.block_lt_of_cell? w _ h
  unfold World.cell? at *
  rw [hb.block _ hlt]
  exact h
theorem Inv.below {w w' : World} (h : Inv w) (hb : Below w.heap.size w w') : Inv w' where
  mx := let ⟨m, hm⟩ := h.mx; ⟨m, cell_below hm hb⟩
  tab := Lib.tabBelow_of_tabIs h.tab w' hb
  syn := let ⟨m, hm, h2⟩ := h.syn; ⟨m, cell_below hm hb, h2⟩
  rng := let ⟨m, hm, h2⟩ := h.rng; ⟨m, cell_below hm hb, h2⟩
theorem Inv.alloc {w : World} (h : Inv w) (o : Obj) : Inv (w.alloc o) := h.below ((Below.refl _ _).alloc (Nat.le_refl _) o)
theorem Inv.drewN {w : World} (h : Inv w) (m : Nat) : Inv (w.drewN m) := h.below ⟨rfl, rfl, rfl, Nat.le_refl _, fun _ _ => rfl⟩
theorem Inv.drew {w : World} (h : Inv w) : Inv w.drew := h.below ⟨rfl, rfl, rfl, Nat.le_refl _, fun _ _ => rfl⟩
open Go.Proofs.YtbclogifkifaaaaDoor.Short Go.Proofs.YtbclogifkifaaaaDoorW.PrintWords Go.Proofs.YtbclogifkifaaaaDoorW.PrintLast in
theorem ivb {w W : World} (h : Inv w) (hb : Below w.heap.size w W := by repeat (first | (with_reducible first | exact HB.out | apply below_alloc | apply pw_below_drewN | apply below_drew1 | refine below_set ?_ (Aside0.out (by with_reducible assumption))) | exact HB.out)) : Inv W := h.below hb
end Go.Proofs.YtbclogifkifaaaaDoor.Inv
