/- Words of this work: how Go data lie in memory (Rep, Row, Own), what a call holds while it runs (Mem), and what each operation does to_ that. Nothing here names the program. -/
import Derived.Below
import Derived.Maps.AppendAt
import Derived.OwnWalk
import Derived.Laws.MakeOwn
import Derived.Laws.OwnMore
import Derived.Deep.OwnRows
import Derived.Deep.AppendLies
import Derived.Tactics
import Derived.Laws.Slices
import Derived.WalkKit
import Derived.KernelRfl
import Derived.RowKit3
import Derived.Deep.LoopGhost
import Derived.Deep.QuietTactic
import Derived.BigQuiet
import Derived.Laws.Rows
import Derived.Laws.IdiomCopy
import Derived.RowKit
namespace Go.Proofs.YtbclogifkifaaaaDoor.Mq
open Go.RowKit
set_option linter.unusedVariables false

theorem add_plain (g j : Nat) : (⟨g, 0, none⟩ : Addr).add j = ⟨g, j, none⟩ := by unfold Addr.add; split <;> simp_all
theorem add_block (a : Addr) (i : Nat) : (a.add i).block = a.block := by unfold Addr.add; split <;> rfl
/-! ### 1. How a value's cells tell it -/
/-- sz cells; K w S x cs: in w the cells cs tell x, and all that they lead to_ lies in blocks of S. -/
structure Rep (α : Type) where
  sz : Nat
  K : World → (Nat → Prop) → α → List Value → Prop
  len : ∀ {w S x cs}, K w S x cs → cs.length = sz
  one : ∀ {w S x cs}, K w S x cs → ∀ u ∈ cs, u.oneCell' = true
  mono : ∀ {w : World} {S S' : Nat → Prop} {x cs}, (∀ k, S k → S' k) → K w S x cs → K w S' x cs
  move : ∀ {w w' : World} {S x cs}, (∀ k, S k → w'.heap[k]? = w.heap[k]?) → K w S x cs → K w' S x cs
  bound : ∀ {w : World} {S x cs}, K w S x cs → K w (fun k => S k ∧ k < w.heap.size) x cs

theorem Rep.step {α : Type} (d : Rep α) {w w' : World} {S : Nat → Prop} {x : α} {cs : List Value} (hm : ∀ k, S k → k < w.heap.size → w'.heap[k]? = w.heap[k]?) (h : d.K w S x cs) : d.K w' S x cs :=
  d.mono (fun _ hk => hk.1) (d.move (fun k hk => hm k hk.1 hk.2) (d.bound h))

/-- A slice that is read. -/
def Row {α : Type} (d : Rep α) (w : World) (S : Nat → Prop) (A : Option Addr) (xs : List α) : Prop :=
  xs.length ≤ maxLen ∧ (0 < xs.length → ∃ ad, A = some ad ∧ S ad.block ∧ ad.block < w.heap.size ∧ ∀ (i : Nat) x, xs[i]? = some x → ∃ cs, d.K w S x cs ∧ ∀ (j : Nat) u, cs[j]? = some u → w.cell? (ad.add (i * d.sz + j)) = some u)

section
variable {α : Type} {d : Rep α} {w w' : World} {S S' : Nat → Prop} {A : Option Addr} {xs : List α}
theorem Row.nil : Row d w S A [] := ⟨by simp, fun h => absurd h (by simp)⟩
theorem Row.len (h : Row d w S A xs) : xs.length ≤ maxLen := h.1
theorem Row.mono (hS : ∀ k, S k → S' k) (h : Row d w S A xs) : Row d w S' A xs := by
  refine ⟨h.1, fun hp => ?_⟩
  obtain ⟨ad, e, h1, h2, h3⟩ := h.2 hp
  exact ⟨ad, e, hS _ h1, h2, fun i x hx => by obtain ⟨cs, hK, hc⟩ := h3 i x hx; exact ⟨cs, d.mono hS hK, hc⟩⟩
theorem lt_of_same {w w' : World} {k : Nat} (h : w'.heap[k]? = w.heap[k]?) (hk : k < w.heap.size) : k < w'.heap.size := by
  rw [Array.getElem?_eq_getElem hk] at h
  rcases Nat.lt_or_ge k w'.heap.size with h1 | h1
  · exact h1
  · rw [Array.getElem?_eq_none h1] at h; cases h
theorem Row.bound (h : Row d w S A xs) : Row d w (fun k => S k ∧ k < w.heap.size) A xs := by
  refine ⟨h.1, fun hp => ?_⟩
  obtain ⟨ad, e, h1, h2, h3⟩ := h.2 hp
  exact ⟨ad, e, ⟨h1, h2⟩, h2, fun i x hx => by obtain ⟨cs, hK, hc⟩ := h3 i x hx; exact ⟨cs, d.bound hK, hc⟩⟩
theorem Row.move (hm : ∀ k, S k → w'.heap[k]? = w.heap[k]?) (h : Row d w S A xs) : Row d w' S A xs := by
  refine ⟨h.1, fun hp => ?_⟩
  obtain ⟨ad, e, h1, h2, h3⟩ := h.2 hp
  refine ⟨ad, e, h1, lt_of_same (hm _ h1) h2, fun i x hx => ?_⟩
  obtain ⟨cs, hK, hc⟩ := h3 i x hx
  exact ⟨cs, d.move hm hK, fun j u hu => (World.cell?_of_block (w := w) (w' := w') (by rw [add_block]; exact hm _ h1)).trans (hc j u hu)⟩
theorem Row.step (hm : ∀ k, S k → k < w.heap.size → w'.heap[k]? = w.heap[k]?) (h : Row d w S A xs) : Row d w' S A xs :=
  Row.mono (fun _ hk => hk.1) (Row.move (fun k hk => hm k hk.1 hk.2) (Row.bound h))
end

/-! #### the kinds -/
def flat {α : Type} (sz : Nat) (enc : α → List Value) (hl : ∀ x, (enc x).length = sz) (h1 : ∀ x, ∀ u ∈ enc x, u.oneCell' = true) : Rep α where
  sz := sz
  K := fun _ _ x cs => cs = enc x
  len := fun h => by rw [h]; exact hl _
  one := fun h u hu => by rw [h] at hu; exact h1 _ u hu
  mono := fun _ h => h
  move := fun _ h => h
  bound := fun h => h
def int (k : IntKind) : Rep Int := flat 1 (fun x => [.int k x]) (fun _ => rfl) (fun x u hu => by rw [List.mem_singleton.1 hu]; rfl)
def bool : Rep Bool := flat 1 (fun x => [.bool x]) (fun _ => rfl) (fun x u hu => by rw [List.mem_singleton.1 hu]; rfl)
def slice {α : Type} (d : Rep α) : Rep (List α) where
  sz := 1
  K := fun w S xs cs => ∃ A c, cs = [.slice A xs.length c] ∧ xs.length ≤ c ∧ Row d w S A xs
  len := by rintro w S x cs ⟨A, c, rfl, _⟩; rfl
  one := by rintro w S x cs ⟨A, c, rfl, _⟩ u hu; rw [List.mem_singleton.1 hu]; rfl
  mono := by rintro w S S' x cs hS ⟨A, c, rfl, hl, h⟩; exact ⟨A, c, rfl, hl, h.mono hS⟩
  move := by rintro w w' S x cs hm ⟨A, c, rfl, hl, h⟩; exact ⟨A, c, rfl, hl, h.move hm⟩
  bound := by rintro w S x cs ⟨A, c, rfl, hl, h⟩; exact ⟨A, c, rfl, hl, h.bound⟩

/-- A struct's cell: a value of its own, or a slice. -/
inductive Leaf : Type 1
  | val (v : Value)
  | row {β : Type} (d : Rep β) (xs : List β)
def Leaf.K (w : World) (S : Nat → Prop) : Leaf → Value → Prop
  | .val v, c => c = v
  | .row d xs, c => ∃ A n, c = .slice A xs.length n ∧ xs.length ≤ n ∧ Row d w S A xs
def Leaf.ok : Leaf → Prop
  | .val v => v.oneCell' = true
  | .row _ _ => True
section
variable {α : Type} {d : Rep α} {w : World} {S : Nat → Prop} {A : Option Addr} {xs : List α}
end

/-! ### 2. A slice of the call's own -/
def Reps {α : Type} (R : α → List Value → Prop) (size : Nat) (ps : List α) (cs : List Value) : Prop :=
  cs.length = ps.length * size ∧ ∀ (j : Nat) p, ps[j]? = some p → R p ((cs.drop (j * size)).take size)
theorem Reps.none {α : Type} (R : α → List Value → Prop) (size : Nat) : Reps R size [] [] := ⟨by simp, fun j p h => by simp at h⟩
theorem Reps.imp {α : Type} {R R' : α → List Value → Prop} {size : Nat} {ps : List α} {cs : List Value} (f : ∀ p c, R p c → R' p c) (h : Reps R size ps cs) : Reps R' size ps cs := ⟨h.1, fun j p hp => f _ _ (h.2 j p hp)⟩
theorem Reps.app {α : Type} {R : α → List Value → Prop} {size : Nat} {ps qs : List α} {cs ds : List Value} (h : Reps R size ps cs) (h2 : Reps R size qs ds) : Reps R size (ps ++ qs) (cs ++ ds) := by
  refine ⟨by rw [List.length_append, h.1, h2.1, List.length_append, Nat.add_mul], fun j q hq => ?_⟩
  rcases Nat.lt_or_ge j ps.length with hj | hj
  · rw [List.getElem?_append_left hj] at hq
    have h3 := h.2 j q hq
    have h4 : j * size + size ≤ cs.length := by rw [h.1]; have := Nat.mul_le_mul_right size (show j + 1 ≤ ps.length by omega); rw [Nat.add_mul, Nat.one_mul] at this; omega
    rw [List.drop_append_of_le_length (by omega), List.take_append_of_le_length (by rw [List.length_drop]; omega)]
    exact h3
  · rw [List.getElem?_append_right hj] at hq
    have h3 := h2.2 _ q hq
    have h4 : cs.length ≤ j * size := by rw [h.1]; exact Nat.mul_le_mul_right _ hj
    rw [List.drop_append, List.drop_eq_nil_of_le h4, List.nil_append, show j * size - cs.length = (j - ps.length) * size by rw [h.1, Nat.sub_mul]]
    exact h3
theorem Reps.single {α : Type} {R : α → List Value → Prop} {size : Nat} {p : α} {c : List Value} (hp : R p c) (hc : c.length = size) : Reps R size [p] c := by
  refine ⟨by simp [hc], fun j q hq => ?_⟩
  cases j with
  | zero => simp at hq; subst hq; rw [Nat.zero_mul, List.drop_zero, List.take_of_length_le (by omega)]; exact hp
  | succ j => simp at hq
theorem Reps.cells {α : Type} {R : α → List Value → Prop} {size : Nat} {ps : List α} {cs : List Value} (h : Reps R size ps cs) {i j : Nat} {p : α} (hp : ps[i]? = some p) (hj : j < size) : cs[i * size + j]? = ((cs.drop (i * size)).take size)[j]? := by
  rw [List.getElem?_take, if_pos hj, List.getElem?_drop]
/-- A slice of the call's own: nil, or the head of a block in S; what its elements lead to_ is frozen (F) or in S, and never that block. -/
def Own {α : Type} (d : Rep α) (e : Nat) (w : World) (F S : Nat → Prop) (v : Value) (xs : List α) : Prop :=
  (∀ k, v.ownBlock = some k → S k) ∧ ∃ cells, w.ownsRow 0 e d.sz v xs.length cells ∧ Reps (d.K w (fun k => F k ∨ (S k ∧ some k ≠ v.ownBlock))) d.sz xs cells

theorem own_move {w w1 : World} {base : Nat} {e : TypeId} {size n : Nat} {v : Value} {xs : List Value} (h : w.ownsRow base e size v n xs) (hm : ∀ k, v.ownBlock = some k → w1.heap[k]? = w.heap[k]?) : w1.ownsRow base e size v n xs := by
  obtain ⟨h1, h2⟩ := h
  refine ⟨h1, ?_⟩
  rcases h2 with h2 | ⟨g, cap, cur, rfl, hg, hh, r⟩
  · exact .inl h2
  · exact .inr ⟨g, cap, cur, rfl, hg, (hm g (by simp [Value.ownBlock])).trans hh, r⟩
theorem own_lt {w : World} {base : Nat} {e : TypeId} {size n : Nat} {v : Value} {xs : List Value} (h : w.ownsRow base e size v n xs) (k : Nat) (hk : v.ownBlock = some k) : k < w.heap.size := (h.lt k hk).2

section
variable {α : Type} {d : Rep α} {e : Nat} {w w' : World} {F F' S S' : Nat → Prop} {v : Value} {xs : List α}
theorem Own.nil : Own d e w F S (.slice none 0 0) [] := ⟨fun k hk => by simp [Value.ownBlock] at hk, [], World.ownsRow_nil _ _ _ _, Reps.none _ _⟩
theorem Own.mono (hF : ∀ k, F k → F' k ∨ (S' k ∧ some k ≠ v.ownBlock)) (hS : ∀ k, S k → S' k) (h : Own d e w F S v xs) : Own d e w F' S' v xs := by
  obtain ⟨h1, cells, ho, hr⟩ := h
  exact ⟨fun k hk => hS k (h1 k hk), cells, ho, hr.imp fun p c hp => d.mono (fun k hk => hk.elim (fun h => hF k h) (fun h => .inr ⟨hS k h.1, h.2⟩)) hp⟩
theorem Own.move (hm : ∀ k, F k ∨ S k → w'.heap[k]? = w.heap[k]?) (h : Own d e w F S v xs) : Own d e w' F S v xs := by
  obtain ⟨h1, cells, ho, hr⟩ := h
  exact ⟨h1, cells, own_move ho (fun k hk => hm k (.inr (h1 k hk))), hr.imp fun p c hp => d.move (fun k hk => hm k (hk.elim .inl (fun h => .inr h.1))) hp⟩
theorem Own.bound (h : Own d e w F S v xs) : Own d e w (fun k => F k ∧ k < w.heap.size) (fun k => S k ∧ k < w.heap.size) v xs := by
  obtain ⟨h1, cells, ho, hr⟩ := h
  exact ⟨fun k hk => ⟨h1 k hk, own_lt ho k hk⟩, cells, ho, hr.imp fun p c hp => d.mono (fun k hk => hk.1.elim (fun h => .inl ⟨h, hk.2⟩) (fun h => .inr ⟨⟨h.1, hk.2⟩, h.2⟩)) (d.bound hp)⟩
theorem Own.len (h : Own d e w F S v xs) (hd : 0 < d.sz) : xs.length ≤ maxLen := by
  obtain ⟨h1, cells, ho, hr⟩ := h
  rcases ho.2 with ⟨_, h0⟩ | ⟨g, cap, cur, rfl, _, hh, hn, hm, hs, ht⟩
  · omega
  · omega
/-- It reads. -/
theorem Own.row (hd : 0 < d.sz) (h : Own d e w F S v xs) : ∃ A c, v = .slice A xs.length c ∧ xs.length ≤ c ∧ Row d w (fun k => F k ∨ S k) A xs := by
  have hlen := h.len hd
  obtain ⟨h1, cells, ho, hr⟩ := h
  rcases ho.2 with ⟨rfl, h0⟩ | ⟨g, cap, cur, rfl, _, hh, hn, hm, hs, ht⟩
  · have : xs = [] := List.eq_nil_of_length_eq_zero h0
    subst this
    exact ⟨none, 0, rfl, Nat.le_refl _, Row.nil⟩
  · refine ⟨_, cap, rfl, hn, hlen, fun hp => ⟨_, rfl, .inr (h1 g rfl), own_lt ho g rfl, fun i x hx => ?_⟩⟩
    have hl : i < xs.length := by
      rcases Nat.lt_or_ge i xs.length with h1 | h1
      · exact h1
      · rw [List.getElem?_eq_none h1] at hx; cases hx
    have hK := hr.2 i x hx
    refine ⟨_, d.mono (fun k hk => hk.elim .inl fun h => .inr h.1) hK, fun j u hu => ?_⟩
    have hj : j < d.sz := by
      have h3 := d.len hK
      rcases Nat.lt_or_ge j d.sz with h4 | h4
      · exact h4
      · rw [List.getElem?_eq_none (by omega)] at hu; cases hu
    rw [← hr.cells hx hj, ← ht] at hu
    rw [add_plain]
    simp only [World.cell?, hh]
    rw [List.getElem?_take] at hu
    split at hu
    · simpa using hu
    · cases hu
end

/-! ### 3. What a call holds while it runs -/
structure Asr where
  P : World → (Nat → Prop) → (Nat → Prop) → Prop
  mono : ∀ {w : World} {F F' S S' : Nat → Prop}, (∀ k, F k → F' k) → (∀ k, S k → S' k) → P w F S → P w F' S'
  move : ∀ {w w' : World} {F S : Nat → Prop}, (∀ k, F k ∨ S k → w'.heap[k]? = w.heap[k]?) → P w F S → P w' F S
  bound : ∀ {w : World} {F S : Nat → Prop}, P w F S → P w (fun k => F k ∧ k < w.heap.size) (fun k => S k ∧ k < w.heap.size)
  join : ∀ {w : World} {F S : Nat → Prop}, (∀ k, F k → ¬ S k) → P w F S → P w (fun _ => False) (fun k => F k ∨ S k)
theorem Asr.step (a : Asr) {w w' : World} {F S : Nat → Prop} (hm : ∀ k, F k ∨ S k → k < w.heap.size → w'.heap[k]? = w.heap[k]?) (h : a.P w F S) : a.P w' F S :=
  a.mono (fun _ hk => hk.1) (fun _ hk => hk.1) (a.move (fun k hk => hk.elim (fun h => hm k (.inl h.1) h.2) (fun h => hm k (.inr h.1) h.2)) (a.bound h))
def own {α : Type} (d : Rep α) (e : Nat) (v : Value) (xs : List α) : Asr where
  P := fun w F S => Own d e w F S v xs
  mono := fun hF hS h => h.mono (fun k hk => .inl (hF k hk)) hS
  move := fun hm h => h.move hm
  bound := fun h => h.bound
  join := fun hd h => h.mono (fun k hk => .inr ⟨.inl hk, fun e => hd k hk (h.1 k e.symm)⟩) (fun k hk => .inr hk)
def row {α : Type} (d : Rep α) (A : Option Addr) (xs : List α) : Asr where
  P := fun w F S => Row d w (fun k => F k ∨ S k) A xs
  mono := fun hF hS h => h.mono fun k hk => hk.elim (fun h => .inl (hF k h)) (fun h => .inr (hS k h))
  move := fun hm h => h.move hm
  bound := fun h => h.bound.mono fun k hk => hk.1.elim (fun h => .inl ⟨h, hk.2⟩) (fun h => .inr ⟨h, hk.2⟩)
  join := fun _ h => h.mono fun k hk => .inr hk
def cells {α : Type} (d : Rep α) (cs : List Value) (x : α) : Asr where
  P := fun w F S => d.K w (fun k => F k ∨ S k) x cs
  mono := fun hF hS h => d.mono (fun k hk => hk.elim (fun h => .inl (hF k h)) (fun h => .inr (hS k h))) h
  move := fun hm h => d.move hm h
  bound := fun h => d.mono (fun k hk => hk.1.elim (fun h => .inl ⟨h, hk.2⟩) (fun h => .inr ⟨h, hk.2⟩)) (d.bound h)
  join := fun _ h => d.mono (fun k hk => .inr hk) h
def Star : List Asr → World → (Nat → Prop) → (Nat → Prop) → Prop
  | [], _, _, _ => True
  | a :: l, w, F, S => ∃ S1 S2 : Nat → Prop, (∀ k, S1 k → S k) ∧ (∀ k, S2 k → S k) ∧ (∀ k, S1 k → ¬ S2 k) ∧ a.P w F S1 ∧ Star l w F S2
theorem Star.mono {w : World} {F F' : Nat → Prop} : ∀ {l : List Asr} {S S' : Nat → Prop}, (∀ k, F k → F' k) → (∀ k, S k → S' k) → Star l w F S → Star l w F' S'
  | [], _, _, _, _, _ => trivial
  | a :: l, S, S', hF, hS, ⟨S1, S2, h1, h2, h3, h4, h5⟩ => ⟨S1, S2, fun k h => hS k (h1 k h), fun k h => hS k (h2 k h), h3, a.mono hF (fun _ h => h) h4, Star.mono hF (fun _ h => h) h5⟩
theorem Star.move {w w' : World} {F : Nat → Prop} : ∀ {l : List Asr} {S : Nat → Prop}, (∀ k, F k ∨ S k → w'.heap[k]? = w.heap[k]?) → Star l w F S → Star l w' F S
  | [], _, _, _ => trivial
  | a :: l, S, hm, ⟨S1, S2, h1, h2, h3, h4, h5⟩ => ⟨S1, S2, h1, h2, h3, a.move (fun k hk => hm k (hk.elim .inl fun h => .inr (h1 k h))) h4, Star.move (fun k hk => hm k (hk.elim .inl fun h => .inr (h2 k h))) h5⟩
theorem Star.bound {w : World} {F : Nat → Prop} : ∀ {l : List Asr} {S : Nat → Prop}, Star l w F S → Star l w (fun k => F k ∧ k < w.heap.size) (fun k => S k ∧ k < w.heap.size)
  | [], _, _ => trivial
  | a :: l, S, ⟨S1, S2, h1, h2, h3, h4, h5⟩ => ⟨_, _, fun k h => ⟨h1 k h.1, h.2⟩, fun k h => ⟨h2 k h.1, h.2⟩, fun k h h' => h3 k h.1 h'.1, a.bound h4, Star.bound h5⟩
theorem Star.step {w w' : World} {F : Nat → Prop} {l : List Asr} {S : Nat → Prop} (hm : ∀ k, F k ∨ S k → k < w.heap.size → w'.heap[k]? = w.heap[k]?) (h : Star l w F S) : Star l w' F S :=
  Star.mono (fun _ hk => hk.1) (fun _ hk => hk.1) (Star.move (fun k hk => hk.elim (fun h => hm k (.inl h.1) h.2) (fun h => hm k (.inr h.1) h.2)) (Star.bound h))
theorem Star.append {w : World} {F : Nat → Prop} {l2 : List Asr} : ∀ {l1 : List Asr} {S1 S2 : Nat → Prop}, (∀ k, S1 k → ¬ S2 k) → Star l1 w F S1 → Star l2 w F S2 → Star (l1 ++ l2) w F (fun k => S1 k ∨ S2 k)
  | [], S1, S2, hd, _, h2 => h2.mono (fun _ h => h) (fun _ h => .inr h)
  | a :: l1, S1, S2, hd, ⟨T1, T2, k1, k2, k3, k4, k5⟩, h2 =>
    ⟨T1, fun k => T2 k ∨ S2 k, fun k h => .inl (k1 k h), fun k h => h.elim (fun h => .inl (k2 k h)) .inr, fun k h h' => h'.elim (k3 k h) (hd k (k1 k h)), k4, Star.append (fun k h => hd k (k2 k h)) k5 h2⟩
theorem Star.split {w : World} {F : Nat → Prop} {l2 : List Asr} : ∀ {l1 : List Asr} {S : Nat → Prop}, Star (l1 ++ l2) w F S → ∃ S1 S2 : Nat → Prop, (∀ k, S1 k → S k) ∧ (∀ k, S2 k → S k) ∧ (∀ k, S1 k → ¬ S2 k) ∧ Star l1 w F S1 ∧ Star l2 w F S2
  | [], S, h => ⟨fun _ => False, S, fun _ h => h.elim, fun _ h => h, fun _ h => h.elim, trivial, h⟩
  | a :: l1, S, ⟨T1, T2, h1, h2, h3, h4, h5⟩ => by
    obtain ⟨S1, S2, k1, k2, k3, k4, k5⟩ := Star.split h5
    exact ⟨fun k => T1 k ∨ S1 k, S2, fun k h => h.elim (h1 k) (fun h => h2 k (k1 k h)), fun k h => h2 k (k2 k h), fun k h h' => h.elim (fun h => h3 k h (k2 k h')) (fun h => k3 k h h'), ⟨T1, S1, fun k h => .inl h, fun k h => .inr h, fun k h h' => h3 k h (k1 k h'), h4, k4⟩, k5⟩
theorem Star.item {w : World} {F : Nat → Prop} {a : Asr} : ∀ {l : List Asr} {S : Nat → Prop}, a ∈ l → Star l w F S → ∃ S', (∀ k, S' k → S k) ∧ a.P w F S'
  | b :: l, S, h, ⟨S1, S2, h1, h2, _, h4, h5⟩ => by
    rcases List.mem_cons.1 h with rfl | h
    · exact ⟨S1, h1, h4⟩
    · obtain ⟨S', k1, k2⟩ := Star.item h h5
      exact ⟨S', fun k hk => h2 k (k1 k hk), k2⟩

/-- What may be written of what was there: the blocks of M alone. -/
structure Keep (M : Nat → Prop) (w w' : World) : Prop where
  os : w'.os = w.os
  tape : w'.tape = w.tape
  output : w'.output = w.output
  size : w.heap.size ≤ w'.heap.size
  block : ∀ k, k < w.heap.size → ¬ M k → w'.heap[k]? = w.heap[k]?
section
variable {M M1 : Nat → Prop} {w0 W W1 : World}
theorem Keep.refl (M : Nat → Prop) (w : World) : Keep M w w := ⟨rfl, rfl, rfl, Nat.le_refl _, fun _ _ _ => rfl⟩
theorem Keep.grown (h : Keep M w0 W) {g : Option Nat} (hg : W.grownBy W1 g) (hM : ∀ k, g = some k → M k ∨ w0.heap.size ≤ k) : Keep M w0 W1 :=
  ⟨hg.os.trans h.os, hg.tape.trans h.tape, hg.output.trans h.output, Nat.le_trans h.size hg.size, fun k hk hm => (hg.block k (Nat.lt_of_lt_of_le hk h.size) (fun e => (hM k e.symm).elim hm (fun h => Nat.not_le.2 hk h))).trans (h.block k hk hm)⟩
theorem Keep.trans (h : Keep M w0 W) (h1 : Keep M1 W W1) (hM : ∀ k, M1 k → M k ∨ w0.heap.size ≤ k) : Keep M w0 W1 :=
  ⟨h1.os.trans h.os, h1.tape.trans h.tape, h1.output.trans h.output, Nat.le_trans h.size h1.size, fun k hk hm => (h1.block k (Nat.lt_of_lt_of_le hk h.size) (fun e => (hM k e).elim hm (fun h => Nat.not_le.2 hk h))).trans (h.block k hk hm)⟩
end
/-- w0: the world in which the call began; W: the one that stands; M: blocks of w0 that may be written; Z: blocks of w0 that are not, and to_ which what is made may lead; R: what is only read from now on; l: what is the call's own, each apart from all else. -/
def MemM (M Z : Nat → Prop) (w0 W : World) (R l : List Asr) : Prop :=
  (Keep M w0 W ∧ ∀ k, Z k → k < w0.heap.size ∧ ¬ M k) ∧ ∃ F S : Nat → Prop, (∀ k, F k → Z k ∨ M k ∨ w0.heap.size ≤ k) ∧ (∀ k, S k → M k ∨ w0.heap.size ≤ k) ∧ (∀ k, F k → ¬ S k) ∧ (∀ k, F k → k < W.heap.size) ∧ (∀ k, S k → k < W.heap.size) ∧ (∀ a ∈ R, a.P W F (fun _ => False)) ∧ Star l W F S
/-- Nothing of what was there is written. -/
abbrev Mem (w0 W : World) (R l : List Asr) : Prop := MemM (fun _ => False) (fun _ => False) w0 W R l

section
variable {M Z : Nat → Prop} {w0 W W1 : World} {R R1 l l1 : List Asr} {a b c : Asr}
theorem MemM.startM {M Z : Nat → Prop} {w : World} (hZ : ∀ k, Z k → k < w.heap.size ∧ ¬ M k) : MemM M Z w w [] [] := ⟨⟨Keep.refl _ _, hZ⟩, fun _ => False, fun _ => False, fun _ h => h.elim, fun _ h => h.elim, fun _ h => h.elim, fun _ h => h.elim, fun _ h => h.elim, (fun a h => by cases h), trivial⟩
theorem MemM.start (w : World) : Mem w w [] [] := MemM.startM (fun _ h => h.elim)
/-- A world that stands otherwise only above, or that changed nothing that is held. -/
theorem MemM.grown (H : MemM M Z w0 W R l) (hg : W.grownBy W1 none) : MemM M Z w0 W1 R l := by
  obtain ⟨hB, F, S, h1, h2, h3, h4, h5, h6, h7⟩ := H
  have hm : ∀ k, k < W.heap.size → W1.heap[k]? = W.heap[k]? := fun k hk => hg.block k hk (by simp)
  exact ⟨⟨hB.1.grown hg (by simp), hB.2⟩, F, S, h1, h2, h3, fun k h => Nat.lt_of_lt_of_le (h4 k h) hg.size, fun k h => Nat.lt_of_lt_of_le (h5 k h) hg.size, fun a ha => a.step (fun k _ hk => hm k hk) (h6 a ha), h7.step (fun k _ hk => hm k hk)⟩
theorem MemM.alloc (H : MemM M Z w0 W R l) (o : Obj) : MemM M Z w0 (W.alloc o) R l := H.grown (World.grownBy_alloc W o none)
theorem MemM.drop (H : MemM M Z w0 W R (a :: l)) : MemM M Z w0 W R l := by
  obtain ⟨hB, F, S, h1, h2, h3, h4, h5, h6, S1, S2, k1, k2, k3, k4, k5⟩ := H
  exact ⟨hB, F, S, h1, h2, h3, h4, h5, h6, k5.mono (fun _ h => h) k2⟩
/-- What is an item told otherwise. -/
theorem MemM.imp (H : MemM M Z w0 W R (a :: l)) (f : ∀ F S : Nat → Prop, (∀ k, F k → ¬ S k) → a.P W F S → b.P W F S) : MemM M Z w0 W R (b :: l) := by
  obtain ⟨hB, F, S, h1, h2, h3, h4, h5, h6, S1, S2, k1, k2, k3, k4, k5⟩ := H
  exact ⟨hB, F, S, h1, h2, h3, h4, h5, h6, S1, S2, k1, k2, k3, f _ _ (fun k hk h => h3 k hk (k1 k h)) k4, k5⟩
theorem MemM.item (H : MemM M Z w0 W R l) (ha : a ∈ l) : ∃ F S : Nat → Prop, (∀ k, F k → ¬ S k) ∧ (∀ k, F k → k < W.heap.size) ∧ (∀ k, S k → k < W.heap.size) ∧ a.P W F S := by
  obtain ⟨hB, F, S, h1, h2, h3, h4, h5, h6, h7⟩ := H
  obtain ⟨S', k1, k2⟩ := h7.item ha
  exact ⟨F, S', fun k hk h => h3 k hk (k1 k h), h4, fun k h => h5 k (k1 k h), k2⟩
/-- Behind a call: what it made. -/
theorem MemM.call (H : MemM M Z w0 W R l) (h : Mem W W1 R1 l1) : MemM M Z w0 W1 (R1 ++ R) (l1 ++ l) := by
  obtain ⟨hB, F, S, h1, h2, h3, h4, h5, h6, h7⟩ := H
  obtain ⟨hB', F', S', h1', h2', h3', h4', h5', h6', h7'⟩ := h
  have g1 : ∀ k, F' k → W.heap.size ≤ k := fun k h => (h1' k h).elim False.elim (fun h => h.elim False.elim id)
  have g2 : ∀ k, S' k → W.heap.size ≤ k := fun k h => (h2' k h).elim False.elim id
  have hm : ∀ k, k < W.heap.size → W1.heap[k]? = W.heap[k]? := fun k hk => hB'.1.block k hk id
  refine ⟨⟨hB.1.trans hB'.1 (fun k h => h.elim), hB.2⟩, fun k => F' k ∨ F k, fun k => S' k ∨ S k, fun k h => h.elim (fun h => .inr (.inr (Nat.le_trans hB.1.size (g1 k h)))) (h1 k), fun k h => h.elim (fun h => .inr (Nat.le_trans hB.1.size (g2 k h))) (h2 k), fun k h h' => h.elim (fun h => h'.elim (h3' k h) (fun h' => Nat.not_le.2 (h5 k h') (g1 k h))) (fun h => h'.elim (fun h' => Nat.not_le.2 (h4 k h) (g2 k h')) (h3 k h)), fun k h => h.elim (h4' k) (fun h => Nat.lt_of_lt_of_le (h4 k h) hB'.1.size), fun k h => h.elim (h5' k) (fun h => Nat.lt_of_lt_of_le (h5 k h) hB'.1.size), fun x hx => ?_, ?_⟩
  · rcases List.mem_append.1 hx with hx | hx
    · exact x.mono (fun k h => .inl h) (fun _ h => h) (h6' x hx)
    · exact x.mono (fun k h => .inr h) (fun _ h => h) (x.step (fun k _ hk => hm k hk) (h6 x hx))
  · exact Star.append (fun k h h' => Nat.not_le.2 (h5 k h') (g2 k h)) (h7'.mono (fun k h => .inl h) (fun _ h => h)) ((h7.step (fun k _ hk => hm k hk)).mono (fun k h => .inr h) (fun _ h => h))
end

/-! #### reading -/
section
variable {α : Type} {d : Rep α} {e : Nat} {M Z : Nat → Prop} {w0 W : World} {R l : List Asr} {v : Value} {xs : List α} {A : Option Addr}
end

/-! ### 4. Operations -/
section
variable {P : Program} {ops : Array Oper} {rest : List Oper} {o : Oper} {a : Act} {Q : Exit → Act → World → Prop} {W : World}
end
section
variable {P : Program} {ops : Array Oper} {rest : List Oper} {o : Oper} {a : Act} {Q : Exit → Act → World → Prop} {α : Type} {d : Rep α} {e : TypeId} {M Z : Nat → Prop} {w0 W : World} {R l : List Asr} {v : Value} {xs : List α}
theorem Reps.cons {β : Type} {r : β → List Value → Prop} {size : Nat} {p : β} {c : List Value} {ps : List β} {cs : List Value} (hp : r p c) (hc : c.length = size) (h : Reps r size ps cs) : Reps r size (p :: ps) (c ++ cs) := (Reps.single hp hc).app h
/-- A literal's block, just made. -/
theorem MemM.lit (H : MemM M Z w0 W R l) (d : Rep α) (e : TypeId) (xs : List α) (cs : List Value) (hK : ∀ F : Nat → Prop, (∀ x ∈ R, x.P W F (fun _ => False)) → Reps (d.K W F) d.sz xs cs) (hm : xs.length ≤ maxLen) :
    MemM M Z w0 (W.alloc (.cells cs.toArray e)) R (own d e (.slice (some ⟨W.heap.size, 0, none⟩) xs.length xs.length) xs :: l) := by
  have hg := World.grownBy_alloc W (.cells cs.toArray e) none
  obtain ⟨hB, F, S, h1, h2, h3, h4, h5, h6, h7⟩ := H
  have hm1 : ∀ k, k < W.heap.size → (W.alloc (.cells cs.toArray e)).heap[k]? = W.heap[k]? := fun k hk => hg.block k hk (by simp)
  have hsz : W.heap.size < (W.alloc (.cells cs.toArray e)).heap.size := by simp
  refine ⟨⟨hB.1.grown hg (by simp), hB.2⟩, F, fun k => S k ∨ k = W.heap.size, h1, fun k h => h.elim (h2 k) (fun h => .inr (by have := hB.1.size; omega)), fun k h h' => h'.elim (h3 k h) (fun e => by have := h4 k h; omega), fun k h => Nat.lt_of_lt_of_le (h4 k h) hg.size, fun k h => h.elim (fun h => Nat.lt_of_lt_of_le (h5 k h) hg.size) (fun h => by omega), fun x hx => x.step (fun k _ hk => hm1 k hk) (h6 x hx), fun k => k = W.heap.size, S, fun k h => .inr h, fun k h => .inl h, fun k h h' => by have := h5 k h'; omega, ?_, h7.step (fun k _ hk => hm1 k hk)⟩
  have hR := hK F h6
  have h8 := World.ownsRow_lit (base := 0) (e := e) (size := d.sz) W cs.toArray xs.length (Nat.zero_le _) hm (by simpa using hR.1)
  refine ⟨fun k hk => ?_, cs, by simpa using h8, hR.imp fun p c hp => d.mono (fun k hk => .inl hk) (d.step (fun k _ hk => hm1 k hk) hp)⟩
  have : W.heap.size = k := by simpa [Value.ownBlock] using hk
  omega
end
/-! ### 5. Rows of rows, each of which is written -/
section
variable {α : Type} {d : Rep α} {e e2 : TypeId} {M Z : Nat → Prop} {w0 W : World} {R l : List Asr} {v : Value} {xs : List α}
theorem Own.one {F S : Nat → Prop} (h : Own d e W F S v xs) : ∃ A c, v = .slice A xs.length c := by
  obtain ⟨_, cells, ho, _⟩ := h
  rcases ho.2 with ⟨rfl, h0⟩ | ⟨g, cap, cur, rfl, _⟩
  · exact ⟨none, 0, by rw [h0]⟩
  · exact ⟨_, cap, rfl⟩
theorem MemM.one (H : MemM M Z w0 W R l) (h : own d e v xs ∈ l) : ∃ A c, v = .slice A xs.length c := by
  obtain ⟨F, S, _, _, _, h3⟩ := H.item h
  exact Own.one h3
end
end Go.Proofs.YtbclogifkifaaaaDoor.Mq
