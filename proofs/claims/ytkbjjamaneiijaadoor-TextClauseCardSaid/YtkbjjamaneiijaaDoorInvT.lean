/- What the library's functions on numbers read of the world, for rows that list the numbers' tables alone. -/
import Derived.Test.YtkbjjamaneiijaaDoorLibs
namespace Go.Proofs.YtkbjjamaneiijaaDoor.InvT
open Go.RowKit
structure Inv (w : World) : Prop where
  tab : Lib.TabIs Tryd.prog w "internal/strconv.uint64pow10" .u64 Lib.pow10Tab
theorem Inv.below {w w' : World} (h : Inv w) (hb : Below w.heap.size w w') : Inv w' where
  tab := Lib.tabBelow_of_tabIs h.tab w' hb
theorem Inv.alloc {w : World} (h : Inv w) (o : Obj) : Inv (w.alloc o) := h.below ((Below.refl _ _).alloc (Nat.le_refl _) o)
theorem Inv.drewN {w : World} (h : Inv w) (m : Nat) : Inv (w.drewN m) := h.below ⟨rfl, rfl, rfl, Nat.le_refl _, fun _ _ => rfl⟩
theorem Inv.drew {w : World} (h : Inv w) : Inv w.drew := h.below ⟨rfl, rfl, rfl, Nat.le_refl _, fun _ _ => rfl⟩
theorem itoa_calls (n : Int) (h0 : -9223372036854775808 ≤ n) (h1 : n ≤ 9223372036854775807) (w : World) (hI : Inv w) :
    Calls Tryd.prog 35 #[.int .i64 n] w fun e w' => e = .returned (.string ⟨(Lib.itoa n).toArray⟩) ∧ Below w.heap.size w w' :=
  (Tryd.strconv_Itoa n h0 h1 w hI.tab).mono fun e w' ⟨he, k, os, hw⟩ => ⟨he, by rw [hw]; exact Lib.below_grow _ w (Nat.le_refl _) k os⟩
end Go.Proofs.YtkbjjamaneiijaaDoor.InvT
