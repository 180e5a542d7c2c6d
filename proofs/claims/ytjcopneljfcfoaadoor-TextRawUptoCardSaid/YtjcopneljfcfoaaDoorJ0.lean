/- Texts of this work, joined: Inv, Libs. -/
import Derived.Lib.AppendIntMem
import Derived.Lib.ItoaNum
import Derived.Test.YtjcopneljfcfoaaDoorProg
import Derived.Below
import Derived.Test.YtjcopneljfcfoaaDoorShort
import Derived.Test.YtjcopneljfcfoaaDoorShelf
import Derived.Test.YtjcopneljfcfoaaDoorWMore
section
namespace Go.Proofs.YtjcopneljfcfoaaDoor.Inv
open Go.RowKit
/-- The cells of the library's own variables. -/
structure Inv (w : World) : Prop where
  tab : Lib.TabIs Tryd.prog w "internal/strconv.uint64pow10" .u64 Lib.pow10Tab
theorem cell_below {w w' : World} {a : Addr} {v : Value} (h : w.cell? a = some v) (hb : Below w.heap.size w w') : w'.cell? a = some v := by
  have hlt : a.block < w.heap.size := World.block_lt_of_cell? w _ h
  unfold World.cell? at *
  rw [hb.block _ hlt]
  exact h
theorem Inv.below {w w' : World} (h : Inv w) (hb : Below w.heap.size w w') : Inv w' where
  tab := Lib.tabBelow_of_tabIs h.tab w' hb
theorem Inv.alloc {w : World} (h : Inv w) (o : Obj) : Inv (w.alloc o) := h.below ((Below.refl _ _).alloc (Nat.le_refl _) o)
theorem Inv.drew {w : World} (h : Inv w) : Inv w.drew := h.below ⟨rfl, rfl, rfl, Nat.le_refl _, fun _ _ => rfl⟩
open Go.Proofs.YtjcopneljfcfoaaDoor.Short Go.Proofs.YtjcopneljfcfoaaDoorW.PrintWords Go.Proofs.YtjcopneljfcfoaaDoorW.PrintLast in
theorem ivb {w W : World} (h : Inv w) (hb : Below w.heap.size w W := by repeat (first | (with_reducible first | exact HB.out | apply below_alloc | apply pw_below_drewN | apply below_drew1 | refine below_set ?_ (Aside0.out (by with_reducible assumption))) | exact HB.out)) : Inv W := h.below hb
end Go.Proofs.YtjcopneljfcfoaaDoor.Inv
end
section
namespace Go.Proofs.YtjcopneljfcfoaaDoor.Libs
open Go.RowKit Go.Proofs.YtjcopneljfcfoaaDoor.Inv
open Go.Proofs.YtjcopneljfcfoaaDoorW.PrintWords (Kd encs)
set_option linter.unusedVariables false
set_option linter.unusedSimpArgs false
theorem itoa_calls (n : Int) (h0 : -9223372036854775808 ≤ n) (h1 : n ≤ 9223372036854775807) (w : World) (hI : Inv w) :
    Calls Tryd.prog 29 #[.int .i64 n] w fun e w' => e = .returned (.string ⟨(Lib.itoa n).toArray⟩) ∧ Below w.heap.size w w' :=
  (Tryd.strconv_Itoa n h0 h1 w hI.tab).mono fun e w' ⟨he, k, os, hw⟩ => ⟨he, by rw [hw]; exact Lib.below_grow _ w (Nat.le_refl _) k os⟩
end Go.Proofs.YtjcopneljfcfoaaDoor.Libs
end
