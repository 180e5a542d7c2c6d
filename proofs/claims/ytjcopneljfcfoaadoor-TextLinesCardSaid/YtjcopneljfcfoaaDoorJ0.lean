/- Texts of this work, joined: Inv, Libs, LibJ. -/
import Derived.Lib.AppendIntMem
import Derived.Lib.ItoaNum
import Derived.Test.YtjcopneljfcfoaaDoorProg
import Derived.Below
import Derived.Test.YtjcopneljfcfoaaDoorShort
import Derived.Test.YtjcopneljfcfoaaDoorShelf
import Derived.Test.YtjcopneljfcfoaaDoorWMore
section
namespace Go.Proofs.YtjcopneljfcfoaaDoor.Inv
open Go.RowKit
/-- The cells of the library's own variables. -/
structure Inv (w : World) : Prop where
  tab : Lib.TabIs Tryd.prog w "internal/strconv.uint64pow10" .u64 Lib.pow10Tab
theorem cell_below {w w' : World} {a : Addr} {v : Value} (h : w.cell? a = some v) (hb : Below w.heap.size w w') : w'.cell? a = some v := by
  have hlt : a.block < w.heap.size := World.block_lt_of_cell? w _ h
  unfold World.cell? at *
  rw [hb.block _ hlt]
  exact h
theorem Inv.below {w w' : World} (h : Inv w) (hb : Below w.heap.size w w') : Inv w' where
  tab := Lib.tabBelow_of_tabIs h.tab w' hb
theorem Inv.alloc {w : World} (h : Inv w) (o : Obj) : Inv (w.alloc o) := h.below ((Below.refl _ _).alloc (Nat.le_refl _) o)
theorem Inv.drewN {w : World} (h : Inv w) (m : Nat) : Inv (w.drewN m) := h.below ⟨rfl, rfl, rfl, Nat.le_refl _, fun _ _ => rfl⟩
theorem Inv.drew {w : World} (h : Inv w) : Inv w.drew := h.below ⟨rfl, rfl, rfl, Nat.le_refl _, fun _ _ => rfl⟩
open Go.Proofs.YtjcopneljfcfoaaDoor.Short Go.Proofs.YtjcopneljfcfoaaDoorW.PrintWords Go.Proofs.YtjcopneljfcfoaaDoorW.PrintLast in
theorem ivb {w W : World} (h : Inv w) (hb : Below w.heap.size w W := by repeat (first | (with_reducible first | exact HB.out | apply below_alloc | apply pw_below_drewN | apply below_drew1 | refine below_set ?_ (Aside0.out (by with_reducible assumption))) | exact HB.out)) : Inv W := h.below hb
end Go.Proofs.YtjcopneljfcfoaaDoor.Inv
end
section
namespace Go.Proofs.YtjcopneljfcfoaaDoor.Libs
open Go.RowKit Go.Proofs.YtjcopneljfcfoaaDoor.Inv
open Go.Proofs.YtjcopneljfcfoaaDoorW.PrintWords (Kd encs)
set_option linter.unusedVariables false
set_option linter.unusedSimpArgs false
theorem itoa_calls (n : Int) (h0 : -9223372036854775808 ≤ n) (h1 : n ≤ 9223372036854775807) (w : World) (hI : Inv w) :
    Calls Tryd.prog 29 #[.int .i64 n] w fun e w' => e = .returned (.string ⟨(Lib.itoa n).toArray⟩) ∧ Below w.heap.size w w' :=
  (Tryd.strconv_Itoa n h0 h1 w hI.tab).mono fun e w' ⟨he, k, os, hw⟩ => ⟨he, by rw [hw]; exact Lib.below_grow _ w (Nat.le_refl _) k os⟩
end Go.Proofs.YtjcopneljfcfoaaDoor.Libs
end
section
namespace Go.Proofs.YtjcopneljfcfoaaDoor.Libs
open Go.RowKit Go.Proofs.YtjcopneljfcfoaaDoor.Inv
open Go.Proofs.YtjcopneljfcfoaaDoorW.PrintWords (Kd encs)
set_option linter.unusedVariables false
set_option linter.unusedSimpArgs false
theorem join_calls (A : Option Addr) (c : Nat) (xs : List ByteArray) (sep : ByteArray) (w : World) (hr : Kd.C Kd.string w A xs.length xs) (hc : xs.length ≤ c) (hN : xs.length ≤ 140737488355328) (hlen : (Lib.join (xs.map (·.data.toList)) sep.data.toList).length ≤ 140737488355328) :
    Calls Tryd.prog 34 #[.slice A xs.length c, .string sep] w fun e w' => e = .returned (.string ⟨(Lib.join (xs.map (·.data.toList)) sep.data.toList).toArray⟩) ∧ Below w.heap.size w w' := by
  rcases Nat.eq_zero_or_pos xs.length with h | h
  · obtain rfl : xs = [] := List.length_eq_zero_iff.1 h
    refine (Tryd.strings_Join_none A c sep w).mono fun e w' ⟨he, hw⟩ => ⟨he, hw ▸ Below.refl _ _⟩
  · obtain ⟨ad, rfl, hcell⟩ := hr.2.2 h
    have hat : ∀ (j : Nat) x, xs[j]? = some x → w.cell? (ad.add j) = some (.string x) := by
      intro j x hj
      obtain ⟨cs, h1, h2, h3⟩ := hcell j x hj
      have h2' : cs = [.string x] := h2
      subst h2'
      have := h3 0 (.string x) rfl
      simpa [Kd.string, Kd.scalar] using this
    obtain ⟨x, hx⟩ : ∃ x, xs[0]? = some x := ⟨_, List.getElem?_eq_getElem h⟩
    have h0 := hat 0 x hx
    obtain ⟨b, o, sp⟩ := ad
    have hsp : sp = none := by
      cases sp with
      | none => rfl
      | some q =>
        simp only [Addr.add, if_pos rfl] at h0
        unfold World.cell? at h0
        split at h0 <;> simp at h0
    subst hsp
    refine Tryd.strings_Join b o c xs sep w (fun j x hj => ?_) (World.block_lt_of_cell? w _ h0) hN hc hlen
    have := hat j x hj
    unfold Addr.add at this
    split at this
    · rename_i e; subst e; exact this
    · exact this
end Go.Proofs.YtjcopneljfcfoaaDoor.Libs
end
