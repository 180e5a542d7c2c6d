/- slices.Sort of ints, told in the printer's way. -/
import Derived.Test.YtkhbpjhlekldpaaShelf
import Derived.Test.YtkhbpjhlekldpaaWMore
namespace Go.Proofs.Ytkhbpjhlekldpaa.Sorted
open Go.RowKit Go.Sort
open Go.Proofs.YtkhbpjhlekldpaaW.PrintWords (Kd Kept Reps)
set_option linter.unusedVariables false
def le (x y : Int) : Bool := decide (x ≤ y)
theorem take_put (zs : List Int) (cur : Array Value) (h : zs.length ≤ cur.size) : (putCells (Value.int .i64) 0 zs.toArray cur).toList.take zs.length = zs.map (Value.int .i64) := by
  apply List.ext_getElem?
  intro i
  rw [List.getElem?_take]
  by_cases hi : i < zs.length
  · rw [if_pos hi, List.getElem?_map, List.getElem?_eq_getElem hi]
    simp [putCells, hi, show i < cur.size by omega]
  · rw [if_neg hi, List.getElem?_map, List.getElem?_eq_none (by omega)]; rfl
theorem sort_calls (P0_ : Nat → Prop) (u9000_ : Value) (l0 : List Int) (r : List Int) (w0 w : World) (hB : Below w0.heap.size w0 w) (ho0 : Kd.R (Kd.int .i64) 3 w w0.heap.size P0_ u9000_ l0) (hl : l0.length < 4611686018427387904) (h : l0.mergeSort le = r) :
    Calls Try.prog 31 #[u9000_] w fun e w' => e = .returned (.tuple #[]) ∧ Kd.R (Kd.int .i64) 3 w' w0.heap.size (fun k_ => (P0_ k_ ∨ w.heap.size ≤ k_)) u9000_ r ∧ Below w0.heap.size w0 w' ∧ Kept w w' (fun k_ => P0_ k_) := by
  obtain ⟨h0, inner, ⟨hil, ho⟩, hr⟩ := ho0
  rcases ho with ⟨rfl, hn⟩ | ⟨g, cap, cur, rfl, hg, hh, hn, hm, hs, ht⟩
  · have : l0 = [] := List.eq_nil_of_length_eq_zero hn
    subst this
    have : r = [] := by rw [← h]; simp
    subst this
    refine (Try.slices_Sort_int_none none 0 w).mono ?_
    rintro e w' ⟨rfl, rfl⟩
    exact ⟨rfl, Kd.R_nil _ _ _ _ _, hB, Kept.refl _ _⟩
  · have hgs : g < w.heap.size := (Array.getElem?_eq_some_iff.1 hh).1
    have hcs : l0.length ≤ cur.size := by rw [hs]; show l0.length ≤ cap * 1; omega
    have hel : ∀ j (hj : j < l0.length), cur[j]? = some (.int .i64 l0[j]) := by
      intro j hj
      have h2 := hr.2 j _ (List.getElem?_eq_getElem hj)
      have h3 : ((inner.drop (j * 1)).take 1) = [Value.int .i64 l0[j]] := h2
      rw [Nat.mul_one] at h3
      have h4 : inner[j]? = some (.int .i64 l0[j]) := by
        have := congrArg (fun l => l[0]?) h3
        simpa [List.getElem?_take, List.getElem?_drop] using this
      rw [← ht, List.getElem?_take] at h4
      split at h4
      · simpa using h4
      · cases h4
    have hH : Holds (Value.int .i64) w g 0 l0.toArray := by
      intro j hj
      have hj' : j < l0.length := by simpa using hj
      refine ⟨?_, ?_⟩
      · rw [Nat.zero_add]
        have := hel j hj'
        simp [World.cell?, hh, this, hj']
      · simp [World.frozen?, hh]
    refine (Try.slices_Sort_int g 0 cap l0 w hH hgs hl).mono ?_
    rintro e w' ⟨rfl, m, os, rfl⟩
    have hrl : r.length = l0.length := by rw [← h]; simp
    have h' : (l0.mergeSort fun x y => decide (x ≤ y)) = r := h
    rw [h']
    have hb : ∀ k, k < w.heap.size → (grow (putRow (Value.int .i64) (Go.Sort.ahead w m) g 0 r.toArray) os).heap[k]? = if k = g then some (.cells (putCells (Value.int .i64) 0 r.toArray cur) 3 (0, 0)) else w.heap[k]? := by
      intro k hk
      rw [heap_grow_old _ _ (by simpa [putRow, mapBlock, Go.Sort.ahead] using hk)]
      unfold putRow mapBlock Go.Sort.ahead
      simp only [Array.getElem?_modify]
      by_cases hkg : k = g
      · subst hkg
        simp [hh, onCells]
      · simp [hkg, Ne.symm hkg]
    have hsz : w.heap.size ≤ (grow (putRow (Value.int .i64) (Go.Sort.ahead w m) g 0 r.toArray) os).heap.size := by simp [grow, putRow, mapBlock, Go.Sort.ahead]
    refine ⟨rfl, ⟨fun k hk => .inl (h0 k hk), r.map (Value.int .i64), ?_, ?_⟩, ?_, ⟨hsz, fun i hi hP => ?_⟩⟩
    · refine ⟨by rw [List.length_map]; show _ = r.length * 1; omega, .inr ⟨g, cap, _, by rw [hrl], hg, (hb g hgs).trans (if_pos rfl), by rw [hrl]; exact hn, hm, ?_, ?_⟩⟩
      · simp only [putCells, Array.size_mapIdx]; exact hs
      · show List.take (r.length * 1) _ = _
        rw [Nat.mul_one]
        exact take_put r cur (by rw [hrl]; exact hcs)
    · refine ⟨by rw [List.length_map]; show _ = r.length * 1; omega, fun j p hj => ?_⟩
      show ((r.map (Value.int .i64)).drop (j * 1)).take 1 = [Value.int .i64 p]
      rw [Nat.mul_one]
      obtain ⟨hj1, rfl⟩ := List.getElem?_eq_some_iff.1 hj
      rw [List.drop_eq_getElem_cons (by rw [List.length_map]; exact hj1)]
      simp
    · refine ⟨hB.os, hB.tape, hB.output, Nat.le_trans hB.size hsz, fun k hk => ?_⟩
      have hk2 : k < w.heap.size := Nat.lt_of_lt_of_le hk hB.size
      rw [hb k hk2, if_neg (by omega)]
      exact hB.block k hk
    · rw [hb i hi, if_neg (fun e : i = g => hP (by rw [e]; exact h0 g (by simp [Value.ownBlock])))]
end Go.Proofs.Ytkhbpjhlekldpaa.Sorted
