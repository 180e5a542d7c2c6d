/- Texts of this work, joined: Open, OpenK. -/
import Derived.ProofKit
import Derived.SizedLaws
import Derived.Deep.Slices
import Derived.Test.YthodilggomedgaaDoorMq
import Derived.Test.YthodilggomedgaaDoorRows
import Derived.Test.YthodilggomedgaaDoorWWords
import Derived.Deep.CondSized
section
namespace Go.Proofs.YthodilggomedgaaDoor.Open
open Go.ChangeShapes Go.WideShapes Go.ChangeAt Go.RowKit Go.Proofs.YthodilggomedgaaDoor.Mq
set_option linter.unusedVariables false

theorem trodAll_stays {H : Type} {enc : TypeId × Value → H} {P : Program} (hl : laidOutB P = true) {W W' : World} (hb : Below W.heap.size W W') :
    ∀ {ts : List TypeId} {vs : List Value} {ds : List (DataW H)} {ps : List MemPlace}, (∀ t ∈ ts, P.readableRec t = true ∧ t < P.types.size) → DataW.TrodAll enc P W 0 (fun _ => true) true ts vs ds ps →
      ∃ ps', DataW.TrodAll enc P W' 0 (fun b => decide (b < W.heap.size)) true ts vs ds ps'
  | [], vs, ds, ps, _, h => by
    cases vs <;> cases ds <;> simp [DataW.TrodAll] at h
    exact ⟨[], rfl⟩
  | t :: ts, vs, ds, ps, ht, h => by
    obtain ⟨v, vs', d, ds', p, q, rfl, rfl, rfl, h1, h2⟩ := trodAll_cons h
    obtain ⟨q', h3⟩ := trodAll_stays hl hb (fun t h => ht t (List.mem_cons_of_mem _ h)) h2
    have k := h1
    have lt : ∀ x ∈ p, x.block < W.heap.size := by obtain ⟨m, hm⟩ := k; exact DataW.trod_lt m _ _ _ hm
    exact ⟨p ++ q', p, q', Below.trod hl (ht t List.mem_cons_self).1 (ht t List.mem_cons_self).2 h1 hb lt, h3, rfl⟩

/-! ### opening -/
section
variable {H : Type} (enc : TypeId × Value → H) (P : Program) (w : World) (base : Nat) (spare : Nat → Bool) (held : Bool)
end
section
variable {H : Type} {enc : TypeId × Value → H} {P : Program} {w : World} {base : Nat} {spare : Nat → Bool} {held : Bool}
/-- A slice's datum, element by element. -/
def OkRow {α : Type} (ok : α → DataW H → Prop) (ys : List α) (D : DataW H) : Prop :=
  (D = .nil ∧ ys = []) ∨ ∃ es rest, D = .slice es rest ∧ es.length = ys.length ∧ ∀ (i : Nat) y e, ys[i]? = some y → es[i]? = some e → ok y e
theorem OkRow.all {α : Type} {ok : α → DataW H → Prop} {ys : List α} {D : DataW H} (h : OkRow ok ys D) : ∀ y ∈ ys, ∃ e, ok y e := by
  intro y hy
  rcases h with ⟨_, rfl⟩ | ⟨es, rest, _, hl, h⟩
  · cases hy
  · obtain ⟨i, hi, rfl⟩ := List.mem_iff_getElem.1 hy
    exact ⟨es[i], h i _ _ (List.getElem?_eq_getElem hi) (List.getElem?_eq_getElem (by omega))⟩
end
end Go.Proofs.YthodilggomedgaaDoor.Open
end
section
namespace Go.Proofs.YthodilggomedgaaDoor.OpenK
open Go.ChangeShapes Go.WideShapes Go.ChangeAt Go.RowKit Go.Proofs.YthodilggomedgaaDoor.Open
open Go.Proofs.YthodilggomedgaaDoorW.PrintWords (Kd)
set_option linter.unusedVariables false

section
variable {H : Type} (enc : TypeId × Value → H) (P : Program) (w : World) (base : Nat) (spare : Nat → Bool) (held : Bool)
end
section
variable {H : Type} {enc : TypeId × Value → H} {P : Program} {w : World} {base : Nat} {spare : Nat → Bool} {held : Bool}
end
section
variable {H : Type} {enc : TypeId × Value → H} {P : Program} {w : World} {base b0 : Nat} {spare : Nat → Bool} {held : Bool}
end
/-! ### bulk -/
theorem bound {H : Type} {l : List (DataW H)} (hk : Rows.uptoSmall H l = true) : Rows.uptoBulkAll l ≤ 1048576 := of_decide_eq_true hk
end Go.Proofs.YthodilggomedgaaDoor.OpenK
end
