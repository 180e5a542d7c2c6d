/- strings.Builder: what a call has made itself. -/
import Derived.Test.YtjcopneljfcfoaaDoorShelf
import Derived.Test.YtjcopneljfcfoaaDoorJ0
import Derived.Test.YtjcopneljfcfoaaDoorJ1
import Derived.Test.YtjcopneljfcfoaaDoorBox
namespace Go.Proofs.YtjcopneljfcfoaaDoor.Bld
open Go.RowKit Go.Proofs.YtjcopneljfcfoaaDoor.Inv
set_option linter.unusedVariables false
abbrev IsB (B b : Nat) (l : List UInt8) (w : World) : Prop := Lib.IsBuilderF 63 5 B b (Lib.byteCells l) w
theorem write_calls (B b : Nat) (l : List UInt8) (s : ByteArray) (w : World) (h : IsB B b l w) (hlen : l.length + s.size ≤ 140737488355328) (hB : B ≤ w.heap.size) :
    Calls Tryd.prog 19 #[.pointer (some ⟨b, 0, none⟩), .string s] w fun e w' => e = .returned (.tuple #[.int .i64 s.size, .nilIface]) ∧ IsB B b (l ++ s.data.toList) w' ∧ Below B w w' ∧ Lib.OthersKept 5 (some b) w w' := by
  refine (Any.Builder_WriteString_k { Tryd.lays156 with } Tryd.Builder_Extra_156 B b (Lib.byteCells l) s w h (by rw [Lib.byteCells_length]; exact hlen) hB).mono fun e w' ⟨he, hb, h1, h2⟩ => ⟨he, ?_, h1, h2⟩
  unfold IsB
  rw [Lib.byteCells_append]
  exact Or.inr hb
theorem string_calls (B b : Nat) (l : List UInt8) (w : World) (h : IsB B b l w) (hB : B ≤ w.heap.size) :
    Calls Tryd.prog 21 #[.pointer (some ⟨b, 0, none⟩)] w fun e w' => e = .returned (.string ⟨l.toArray⟩) ∧ Below B w w' :=
  (Any.Builder_String_any_k { Tryd.lays156 with } Tryd.Builder_Extra_156 B b l w h hB).mono fun e w' ⟨he, _, h1, _⟩ => ⟨he, h1⟩
theorem IsB.below {B b : Nat} {l : List UInt8} {w w' : World} (h : IsB B b l w) (hb : Below w.heap.size w w') : IsB B b l w' := by
  have key : ∀ p, Lib.BuilderAtF 63 5 B b p (Lib.byteCells l) w → Lib.BuilderAtF 63 5 B b p (Lib.byteCells l) w' := by
    rintro p ⟨h1, v, h2, ⟨h3, h4⟩, h5⟩
    have old : ∀ k o, w.heap[k]? = some o → w'.heap[k]? = some o := fun k o hk => by
      rw [hb.block k (Array.getElem?_eq_some_iff.1 hk).1]
      exact hk
    refine ⟨h1, v, old _ _ h2, ⟨h3, ?_⟩, h5⟩
    rcases h4 with h4 | ⟨g, cap, cur, fz, e1, e2, e3, e4⟩
    · exact Or.inl h4
    · exact Or.inr ⟨g, cap, cur, fz, e1, e2, old _ _ e3, e4⟩
  rcases h with h | h
  · exact Or.inl (key _ h)
  · exact Or.inr (key _ h)
open Go.Proofs.YtjcopneljfcfoaaDoor.Mq
theorem box_at {w0 W : World} {g t : Nat} {cs : List Value} {l : List Asr} (H : Mem w0 W [] (box g t cs :: l)) : W.heap[g]? = some (.cells cs.toArray t (0, 0)) ∧ w0.heap.size ≤ g := by
  obtain ⟨F, S, ⟨hS, hg⟩, _, _, h4, _⟩ := H.open1
  refine ⟨hg, ?_⟩
  rcases (h4 g hS).1 with h | h
  · exact h.elim
  · exact h
/-- A box stands behind what is written to a builder. -/
theorem box_kept {W W3 : World} {g t b : Nat} {cs : List Value} (h : W.heap[g]? = some (.cells cs.toArray t (0, 0))) (hk : Lib.OthersKept 5 (some b) W W3) (hb : b < g) (ht : t ≠ 5) : W3.heap[g]? = some (.cells cs.toArray t (0, 0)) :=
  hk g _ h (fun e => by injection e with e; omega) (fun c fz e => by injection e with _ e _; exact ht e)
theorem box_cell {W : World} {g t j : Nat} {cs : List Value} {u : Value} (h : W.heap[g]? = some (.cells cs.toArray t (0, 0))) (hj : cs[j]? = some u) : W.cell? ⟨g, j, none⟩ = some u := by
  unfold World.cell?
  simp [h, hj]
end Go.Proofs.YtjcopneljfcfoaaDoor.Bld
