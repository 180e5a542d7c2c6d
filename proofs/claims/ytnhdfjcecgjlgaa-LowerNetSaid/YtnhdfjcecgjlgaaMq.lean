/- Words of this work: how Go data lie in memory (Rep, Row, Own), what a call holds while it runs (Mem), and what each operation does to_ that. Nothing here names the program. -/
import Derived.Below
import Derived.Maps.AppendAt
import Derived.OwnWalk
import Derived.Laws.MakeOwn
import Derived.Laws.OwnMore
import Derived.Deep.OwnRows
import Derived.Deep.AppendLies
import Derived.Tactics
import Derived.Laws.Slices
import Derived.WalkKit
import Derived.KernelRfl
import Derived.RowKit3
import Derived.Deep.LoopGhost
import Derived.Deep.QuietTactic
import Derived.BigQuiet
import Derived.Laws.Rows
import Derived.Laws.IdiomCopy
import Derived.RowKit
namespace Go.Proofs.Ytnhdfjcecgjlgaa.Mq
open Go.RowKit
set_option linter.unusedVariables false
theorem hide {p : Prop} (h : p) : Hid p := h
theorem add_plain (g j : Nat) : (⟨g, 0, none⟩ : Addr).add j = ⟨g, j, none⟩ := by unfold Addr.add; split <;> simp_all
theorem add_add (a : Addr) (i j : Nat) : (a.add i).add j = a.add (i + j) := by
  unfold Addr.add
  by_cases h1 : i = 0 <;> by_cases h2 : j = 0 <;> simp [h1, h2, Nat.add_assoc]
theorem add_block (a : Addr) (i : Nat) : (a.add i).block = a.block := by unfold Addr.add; split <;> rfl
theorem add_zero (a : Addr) : a.add 0 = a := rfl
theorem max2_int (k k' : IntKind) (x y : Int) : Builtin.max2 (.int k x) (.int k' y) = pure (.int k (max x y)) := by
  simp only [Builtin.max2, gt_iff_lt]
  rw [show (if x < y then y else x) = max x y by rw [Int.max_def]; split <;> split <;> omega]
theorem min2_int (k k' : IntKind) (x y : Int) : Builtin.min2 (.int k x) (.int k' y) = pure (.int k (min x y)) := by
  simp only [Builtin.min2]
  rw [show (if y < x then y else x) = min x y by rw [Int.min_def]; split <;> split <;> omega]
theorem max_two (ats : Array TypeId) (ty : TypeId) (a b : Value) : Builtin.max_ ats ty #[a, b] = (Builtin.max2 a b >>= fun s => pure s) := by simp only [Builtin.max_, List.foldlM_cons, List.foldlM_nil]
theorem min_two (ats : Array TypeId) (ty : TypeId) (a b : Value) : Builtin.min_ ats ty #[a, b] = (Builtin.min2 a b >>= fun s => pure s) := by simp only [Builtin.min_, List.foldlM_cons, List.foldlM_nil]
theorem min_three (ats : Array TypeId) (ty : TypeId) (a b c : Value) : Builtin.min_ ats ty #[a, b, c] = (Builtin.min2 a b >>= fun s => Builtin.min2 s c >>= fun s => pure s) := by simp only [Builtin.min_, List.foldlM_cons, List.foldlM_nil]
structure Rep (α : Type) where
  sz : Nat
  K : World → (Nat → Prop) → α → List Value → Prop
  len : ∀ {w S x cs}, K w S x cs → cs.length = sz
  one : ∀ {w S x cs}, K w S x cs → ∀ u ∈ cs, u.oneCell' = true
  mono : ∀ {w : World} {S S' : Nat → Prop} {x cs}, (∀ k, S k → S' k) → K w S x cs → K w S' x cs
  move : ∀ {w w' : World} {S x cs}, (∀ k, S k → w'.heap[k]? = w.heap[k]?) → K w S x cs → K w' S x cs
  bound : ∀ {w : World} {S x cs}, K w S x cs → K w (fun k => S k ∧ k < w.heap.size) x cs
def Row {α : Type} (d : Rep α) (w : World) (S : Nat → Prop) (A : Option Addr) (xs : List α) : Prop :=
  xs.length ≤ maxLen ∧ (0 < xs.length → ∃ ad, A = some ad ∧ S ad.block ∧ ad.block < w.heap.size ∧ ∀ (i : Nat) x, xs[i]? = some x → ∃ cs, d.K w S x cs ∧ ∀ (j : Nat) u, cs[j]? = some u → w.cell? (ad.add (i * d.sz + j)) = some u)
section
variable {α : Type} {d : Rep α} {w w' : World} {S S' : Nat → Prop} {A : Option Addr} {xs : List α}
theorem Row.nil : Row d w S A [] := ⟨by simp, fun h => absurd h (by simp)⟩
theorem Row.len (h : Row d w S A xs) : xs.length ≤ maxLen := h.1
theorem Row.mono (hS : ∀ k, S k → S' k) (h : Row d w S A xs) : Row d w S' A xs := by
  refine ⟨h.1, fun hp => ?_⟩
  obtain ⟨ad, e, h1, h2, h3⟩ := h.2 hp
  exact ⟨ad, e, hS _ h1, h2, fun i x hx => by obtain ⟨cs, hK, hc⟩ := h3 i x hx; exact ⟨cs, d.mono hS hK, hc⟩⟩
theorem lt_of_same {w w' : World} {k : Nat} (h : w'.heap[k]? = w.heap[k]?) (hk : k < w.heap.size) : k < w'.heap.size := by
  rw [Array.getElem?_eq_getElem hk] at h
  rcases Nat.lt_or_ge k w'.heap.size with h1 | h1
  · exact h1
  · rw [Array.getElem?_eq_none h1] at h; cases h
theorem Row.bound (h : Row d w S A xs) : Row d w (fun k => S k ∧ k < w.heap.size) A xs := by
  refine ⟨h.1, fun hp => ?_⟩
  obtain ⟨ad, e, h1, h2, h3⟩ := h.2 hp
  exact ⟨ad, e, ⟨h1, h2⟩, h2, fun i x hx => by obtain ⟨cs, hK, hc⟩ := h3 i x hx; exact ⟨cs, d.bound hK, hc⟩⟩
theorem Row.move (hm : ∀ k, S k → w'.heap[k]? = w.heap[k]?) (h : Row d w S A xs) : Row d w' S A xs := by
  refine ⟨h.1, fun hp => ?_⟩
  obtain ⟨ad, e, h1, h2, h3⟩ := h.2 hp
  refine ⟨ad, e, h1, lt_of_same (hm _ h1) h2, fun i x hx => ?_⟩
  obtain ⟨cs, hK, hc⟩ := h3 i x hx
  exact ⟨cs, d.move hm hK, fun j u hu => (World.cell?_of_block (w := w) (w' := w') (by rw [add_block]; exact hm _ h1)).trans (hc j u hu)⟩
theorem Row.step (hm : ∀ k, S k → k < w.heap.size → w'.heap[k]? = w.heap[k]?) (h : Row d w S A xs) : Row d w' S A xs :=
  Row.mono (fun _ hk => hk.1) (Row.move (fun k hk => hm k hk.1 hk.2) (Row.bound h))
theorem Row.at_ (h : Row d w S A xs) {i : Nat} {x : α} (hx : xs[i]? = some x) : ∃ ad cs, A = some ad ∧ ad.block < w.heap.size ∧ d.K w S x cs ∧ ∀ (j : Nat) u, cs[j]? = some u → w.cell? (ad.add (i * d.sz + j)) = some u := by
  have hl : i < xs.length := by
    rcases Nat.lt_or_ge i xs.length with h1 | h1
    · exact h1
    · rw [List.getElem?_eq_none h1] at hx; cases hx
  obtain ⟨ad, e, h1, h2, h3⟩ := h.2 (by omega)
  obtain ⟨cs, hK, hc⟩ := h3 i x hx
  exact ⟨ad, cs, e, h2, hK, hc⟩
end
def flat {α : Type} (sz : Nat) (enc : α → List Value) (hl : ∀ x, (enc x).length = sz) (h1 : ∀ x, ∀ u ∈ enc x, u.oneCell' = true) : Rep α where
  sz := sz
  K := fun _ _ x cs => cs = enc x
  len := fun h => by rw [h]; exact hl _
  one := fun h u hu => by rw [h] at hu; exact h1 _ u hu
  mono := fun _ h => h
  move := fun _ h => h
  bound := fun h => h
def int (k : IntKind) : Rep Int := flat 1 (fun x => [.int k x]) (fun _ => rfl) (fun x u hu => by rw [List.mem_singleton.1 hu]; rfl)
def bool : Rep Bool := flat 1 (fun x => [.bool x]) (fun _ => rfl) (fun x u hu => by rw [List.mem_singleton.1 hu]; rfl)
def bs (l : List UInt8) : ByteArray := ⟨l.toArray⟩
theorem bs_size (a : List UInt8) : (bs a).size = a.length := by simp [bs, ByteArray.size]
def slice {α : Type} (d : Rep α) : Rep (List α) where
  sz := 1
  K := fun w S xs cs => ∃ A c, cs = [.slice A xs.length c] ∧ xs.length ≤ c ∧ Row d w S A xs
  len := by rintro w S x cs ⟨A, c, rfl, _⟩; rfl
  one := by rintro w S x cs ⟨A, c, rfl, _⟩ u hu; rw [List.mem_singleton.1 hu]; rfl
  mono := by rintro w S S' x cs hS ⟨A, c, rfl, hl, h⟩; exact ⟨A, c, rfl, hl, h.mono hS⟩
  move := by rintro w w' S x cs hm ⟨A, c, rfl, hl, h⟩; exact ⟨A, c, rfl, hl, h.move hm⟩
  bound := by rintro w S x cs ⟨A, c, rfl, hl, h⟩; exact ⟨A, c, rfl, hl, h.bound⟩
inductive Leaf : Type 1
  | val (v : Value)
  | row {β : Type} (d : Rep β) (xs : List β)
def Leaf.K (w : World) (S : Nat → Prop) : Leaf → Value → Prop
  | .val v, c => c = v
  | .row d xs, c => ∃ A n, c = .slice A xs.length n ∧ xs.length ≤ n ∧ Row d w S A xs
def Leaf.ok : Leaf → Prop
  | .val v => v.oneCell' = true
  | .row _ _ => True
def KL (w : World) (S : Nat → Prop) : List Leaf → List Value → Prop
  | [], cs => cs = []
  | l :: ls, cs => ∃ c r, cs = c :: r ∧ l.K w S c ∧ KL w S ls r
theorem Leaf.K_one {w : World} {S : Nat → Prop} : ∀ {l : Leaf} {c : Value}, l.ok → l.K w S c → c.oneCell' = true
  | .val v, c, h, hk => by rw [show c = v from hk]; exact h
  | .row d xs, c, _, hk => by obtain ⟨A, n, rfl, _⟩ := hk; rfl
theorem Leaf.K_mono {w : World} {S S' : Nat → Prop} (hS : ∀ k, S k → S' k) : ∀ {l : Leaf} {c : Value}, l.K w S c → l.K w S' c
  | .val v, c, hk => hk
  | .row d xs, c, hk => by obtain ⟨A, n, e, hl, h⟩ := hk; exact ⟨A, n, e, hl, h.mono hS⟩
theorem Leaf.K_move {w w' : World} {S : Nat → Prop} (hm : ∀ k, S k → w'.heap[k]? = w.heap[k]?) : ∀ {l : Leaf} {c : Value}, l.K w S c → l.K w' S c
  | .val v, c, hk => hk
  | .row d xs, c, hk => by obtain ⟨A, n, e, hl, h⟩ := hk; exact ⟨A, n, e, hl, h.move hm⟩
theorem Leaf.K_bound {w : World} {S : Nat → Prop} : ∀ {l : Leaf} {c : Value}, l.K w S c → l.K w (fun k => S k ∧ k < w.heap.size) c
  | .val v, c, hk => hk
  | .row d xs, c, hk => by obtain ⟨A, n, e, hl, h⟩ := hk; exact ⟨A, n, e, hl, h.bound⟩
theorem KL_len {w : World} {S : Nat → Prop} : ∀ {ls : List Leaf} {cs : List Value}, KL w S ls cs → cs.length = ls.length
  | [], cs, h => by rw [show cs = [] from h]; rfl
  | l :: ls, cs, h => by obtain ⟨c, r, rfl, _, hr⟩ := h; simp [KL_len hr]
theorem KL_one {w : World} {S : Nat → Prop} : ∀ {ls : List Leaf} {cs : List Value}, (∀ l ∈ ls, l.ok) → KL w S ls cs → ∀ u ∈ cs, u.oneCell' = true
  | [], cs, _, h, u, hu => by rw [show cs = [] from h] at hu; cases hu
  | l :: ls, cs, ho, h, u, hu => by
    obtain ⟨c, r, rfl, hc, hr⟩ := h
    rcases List.mem_cons.1 hu with rfl | hu
    · exact Leaf.K_one (ho l List.mem_cons_self) hc
    · exact KL_one (fun l hl => ho l (List.mem_cons_of_mem _ hl)) hr u hu
theorem KL_imp {w w' : World} {S S' : Nat → Prop} (f : ∀ {l : Leaf} {c}, l.K w S c → l.K w' S' c) : ∀ {ls : List Leaf} {cs : List Value}, KL w S ls cs → KL w' S' ls cs
  | [], cs, h => h
  | l :: ls, cs, h => by obtain ⟨c, r, e, hc, hr⟩ := h; exact ⟨c, r, e, f hc, KL_imp f hr⟩
def strct {α : Type} (sz : Nat) (fs : α → List Leaf) (hl : ∀ x, (fs x).length = sz) (ho : ∀ x, ∀ l ∈ fs x, l.ok) : Rep α where
  sz := sz
  K := fun w S x cs => KL w S (fs x) cs
  len := fun h => by rw [KL_len h]; exact hl _
  one := fun h => KL_one (ho _) h
  mono := fun hS h => KL_imp (fun hk => Leaf.K_mono hS hk) h
  move := fun hm h => KL_imp (fun hk => Leaf.K_move hm hk) h
  bound := fun h => KL_imp (fun hk => Leaf.K_bound hk) h
section
variable {α : Type} {d : Rep α} {w : World} {S : Nat → Prop} {A : Option Addr} {xs : List α}
end
def Reps {α : Type} (R : α → List Value → Prop) (size : Nat) (ps : List α) (cs : List Value) : Prop :=
  cs.length = ps.length * size ∧ ∀ (j : Nat) p, ps[j]? = some p → R p ((cs.drop (j * size)).take size)
theorem Reps.none {α : Type} (R : α → List Value → Prop) (size : Nat) : Reps R size [] [] := ⟨by simp, fun j p h => by simp at h⟩
theorem Reps.imp {α : Type} {R R' : α → List Value → Prop} {size : Nat} {ps : List α} {cs : List Value} (f : ∀ p c, R p c → R' p c) (h : Reps R size ps cs) : Reps R' size ps cs := ⟨h.1, fun j p hp => f _ _ (h.2 j p hp)⟩
theorem Reps.app {α : Type} {R : α → List Value → Prop} {size : Nat} {ps qs : List α} {cs ds : List Value} (h : Reps R size ps cs) (h2 : Reps R size qs ds) : Reps R size (ps ++ qs) (cs ++ ds) := by
  refine ⟨by rw [List.length_append, h.1, h2.1, List.length_append, Nat.add_mul], fun j q hq => ?_⟩
  rcases Nat.lt_or_ge j ps.length with hj | hj
  · rw [List.getElem?_append_left hj] at hq
    have h3 := h.2 j q hq
    have h4 : j * size + size ≤ cs.length := by rw [h.1]; have := Nat.mul_le_mul_right size (show j + 1 ≤ ps.length by omega); rw [Nat.add_mul, Nat.one_mul] at this; omega
    rw [List.drop_append_of_le_length (by omega), List.take_append_of_le_length (by rw [List.length_drop]; omega)]
    exact h3
  · rw [List.getElem?_append_right hj] at hq
    have h3 := h2.2 _ q hq
    have h4 : cs.length ≤ j * size := by rw [h.1]; exact Nat.mul_le_mul_right _ hj
    rw [List.drop_append, List.drop_eq_nil_of_le h4, List.nil_append, show j * size - cs.length = (j - ps.length) * size by rw [h.1, Nat.sub_mul]]
    exact h3
theorem Reps.single {α : Type} {R : α → List Value → Prop} {size : Nat} {p : α} {c : List Value} (hp : R p c) (hc : c.length = size) : Reps R size [p] c := by
  refine ⟨by simp [hc], fun j q hq => ?_⟩
  cases j with
  | zero => simp at hq; subst hq; rw [Nat.zero_mul, List.drop_zero, List.take_of_length_le (by omega)]; exact hp
  | succ j => simp at hq
theorem Reps.cells {α : Type} {R : α → List Value → Prop} {size : Nat} {ps : List α} {cs : List Value} (h : Reps R size ps cs) {i j : Nat} {p : α} (hp : ps[i]? = some p) (hj : j < size) : cs[i * size + j]? = ((cs.drop (i * size)).take size)[j]? := by
  rw [List.getElem?_take, if_pos hj, List.getElem?_drop]
def Own {α : Type} (d : Rep α) (e : Nat) (w : World) (F S : Nat → Prop) (v : Value) (xs : List α) : Prop :=
  (∀ k, v.ownBlock = some k → S k) ∧ ∃ cells, w.ownsRow 0 e d.sz v xs.length cells ∧ Reps (d.K w (fun k => F k ∨ (S k ∧ some k ≠ v.ownBlock))) d.sz xs cells
theorem own_move {w w1 : World} {base : Nat} {e : TypeId} {size n : Nat} {v : Value} {xs : List Value} (h : w.ownsRow base e size v n xs) (hm : ∀ k, v.ownBlock = some k → w1.heap[k]? = w.heap[k]?) : w1.ownsRow base e size v n xs := by
  obtain ⟨h1, h2⟩ := h
  refine ⟨h1, ?_⟩
  rcases h2 with h2 | ⟨g, cap, cur, rfl, hg, hh, r⟩
  · exact .inl h2
  · exact .inr ⟨g, cap, cur, rfl, hg, (hm g (by simp [Value.ownBlock])).trans hh, r⟩
theorem own_lt {w : World} {base : Nat} {e : TypeId} {size n : Nat} {v : Value} {xs : List Value} (h : w.ownsRow base e size v n xs) (k : Nat) (hk : v.ownBlock = some k) : k < w.heap.size := (h.lt k hk).2
section
variable {α : Type} {d : Rep α} {e : Nat} {w w' : World} {F F' S S' : Nat → Prop} {v : Value} {xs : List α}
theorem Own.nil : Own d e w F S (.slice none 0 0) [] := ⟨fun k hk => by simp [Value.ownBlock] at hk, [], World.ownsRow_nil _ _ _ _, Reps.none _ _⟩
theorem Own.mono (hF : ∀ k, F k → F' k ∨ (S' k ∧ some k ≠ v.ownBlock)) (hS : ∀ k, S k → S' k) (h : Own d e w F S v xs) : Own d e w F' S' v xs := by
  obtain ⟨h1, cells, ho, hr⟩ := h
  exact ⟨fun k hk => hS k (h1 k hk), cells, ho, hr.imp fun p c hp => d.mono (fun k hk => hk.elim (fun h => hF k h) (fun h => .inr ⟨hS k h.1, h.2⟩)) hp⟩
theorem Own.move (hm : ∀ k, F k ∨ S k → w'.heap[k]? = w.heap[k]?) (h : Own d e w F S v xs) : Own d e w' F S v xs := by
  obtain ⟨h1, cells, ho, hr⟩ := h
  exact ⟨h1, cells, own_move ho (fun k hk => hm k (.inr (h1 k hk))), hr.imp fun p c hp => d.move (fun k hk => hm k (hk.elim .inl (fun h => .inr h.1))) hp⟩
theorem Own.bound (h : Own d e w F S v xs) : Own d e w (fun k => F k ∧ k < w.heap.size) (fun k => S k ∧ k < w.heap.size) v xs := by
  obtain ⟨h1, cells, ho, hr⟩ := h
  exact ⟨fun k hk => ⟨h1 k hk, own_lt ho k hk⟩, cells, ho, hr.imp fun p c hp => d.mono (fun k hk => hk.1.elim (fun h => .inl ⟨h, hk.2⟩) (fun h => .inr ⟨⟨h.1, hk.2⟩, h.2⟩)) (d.bound hp)⟩
theorem Own.len (h : Own d e w F S v xs) (hd : 0 < d.sz) : xs.length ≤ maxLen := by
  obtain ⟨h1, cells, ho, hr⟩ := h
  rcases ho.2 with ⟨_, h0⟩ | ⟨g, cap, cur, rfl, _, hh, hn, hm, hs, ht⟩
  · omega
  · omega
theorem Own.row (hd : 0 < d.sz) (h : Own d e w F S v xs) : ∃ A c, v = .slice A xs.length c ∧ xs.length ≤ c ∧ Row d w (fun k => F k ∨ S k) A xs := by
  have hlen := h.len hd
  obtain ⟨h1, cells, ho, hr⟩ := h
  rcases ho.2 with ⟨rfl, h0⟩ | ⟨g, cap, cur, rfl, _, hh, hn, hm, hs, ht⟩
  · have : xs = [] := List.eq_nil_of_length_eq_zero h0
    subst this
    exact ⟨none, 0, rfl, Nat.le_refl _, Row.nil⟩
  · refine ⟨_, cap, rfl, hn, hlen, fun hp => ⟨_, rfl, .inr (h1 g rfl), own_lt ho g rfl, fun i x hx => ?_⟩⟩
    have hl : i < xs.length := by
      rcases Nat.lt_or_ge i xs.length with h1 | h1
      · exact h1
      · rw [List.getElem?_eq_none h1] at hx; cases hx
    have hK := hr.2 i x hx
    refine ⟨_, d.mono (fun k hk => hk.elim .inl fun h => .inr h.1) hK, fun j u hu => ?_⟩
    have hj : j < d.sz := by
      have h3 := d.len hK
      rcases Nat.lt_or_ge j d.sz with h4 | h4
      · exact h4
      · rw [List.getElem?_eq_none (by omega)] at hu; cases hu
    rw [← hr.cells hx hj, ← ht] at hu
    rw [add_plain]
    simp only [World.cell?, hh]
    rw [List.getElem?_take] at hu
    split at hu
    · simpa using hu
    · cases hu
end
structure Asr where
  P : World → (Nat → Prop) → (Nat → Prop) → Prop
  mono : ∀ {w : World} {F F' S S' : Nat → Prop}, (∀ k, F k → F' k) → (∀ k, S k → S' k) → P w F S → P w F' S'
  move : ∀ {w w' : World} {F S : Nat → Prop}, (∀ k, F k ∨ S k → w'.heap[k]? = w.heap[k]?) → P w F S → P w' F S
  bound : ∀ {w : World} {F S : Nat → Prop}, P w F S → P w (fun k => F k ∧ k < w.heap.size) (fun k => S k ∧ k < w.heap.size)
  join : ∀ {w : World} {F S : Nat → Prop}, (∀ k, F k → ¬ S k) → P w F S → P w (fun _ => False) (fun k => F k ∨ S k)
theorem Asr.step (a : Asr) {w w' : World} {F S : Nat → Prop} (hm : ∀ k, F k ∨ S k → k < w.heap.size → w'.heap[k]? = w.heap[k]?) (h : a.P w F S) : a.P w' F S :=
  a.mono (fun _ hk => hk.1) (fun _ hk => hk.1) (a.move (fun k hk => hk.elim (fun h => hm k (.inl h.1) h.2) (fun h => hm k (.inr h.1) h.2)) (a.bound h))
def own {α : Type} (d : Rep α) (e : Nat) (v : Value) (xs : List α) : Asr where
  P := fun w F S => Own d e w F S v xs
  mono := fun hF hS h => h.mono (fun k hk => .inl (hF k hk)) hS
  move := fun hm h => h.move hm
  bound := fun h => h.bound
  join := fun hd h => h.mono (fun k hk => .inr ⟨.inl hk, fun e => hd k hk (h.1 k e.symm)⟩) (fun k hk => .inr hk)
def row {α : Type} (d : Rep α) (A : Option Addr) (xs : List α) : Asr where
  P := fun w F S => Row d w (fun k => F k ∨ S k) A xs
  mono := fun hF hS h => h.mono fun k hk => hk.elim (fun h => .inl (hF k h)) (fun h => .inr (hS k h))
  move := fun hm h => h.move hm
  bound := fun h => h.bound.mono fun k hk => hk.1.elim (fun h => .inl ⟨h, hk.2⟩) (fun h => .inr ⟨h, hk.2⟩)
  join := fun _ h => h.mono fun k hk => .inr hk
def cells {α : Type} (d : Rep α) (cs : List Value) (x : α) : Asr where
  P := fun w F S => d.K w (fun k => F k ∨ S k) x cs
  mono := fun hF hS h => d.mono (fun k hk => hk.elim (fun h => .inl (hF k h)) (fun h => .inr (hS k h))) h
  move := fun hm h => d.move hm h
  bound := fun h => d.mono (fun k hk => hk.1.elim (fun h => .inl ⟨h, hk.2⟩) (fun h => .inr ⟨h, hk.2⟩)) (d.bound h)
  join := fun _ h => d.mono (fun k hk => .inr hk) h
def box (g t : Nat) (cs : List Value) : Asr where
  P := fun w _ S => S g ∧ w.heap[g]? = some (.cells cs.toArray t (0, 0))
  mono := fun _ hS h => ⟨hS _ h.1, h.2⟩
  move := fun hm h => ⟨h.1, (hm _ (.inr h.1)).trans h.2⟩
  bound := fun h => ⟨⟨h.1, by
    rcases Nat.lt_or_ge g _ with h1 | h1
    · exact h1
    · rw [Array.getElem?_eq_none h1] at h; cases h.2⟩, h.2⟩
  join := fun _ h => ⟨.inr h.1, h.2⟩
def Star : List Asr → World → (Nat → Prop) → (Nat → Prop) → Prop
  | [], _, _, _ => True
  | a :: l, w, F, S => ∃ S1 S2 : Nat → Prop, (∀ k, S1 k → S k) ∧ (∀ k, S2 k → S k) ∧ (∀ k, S1 k → ¬ S2 k) ∧ a.P w F S1 ∧ Star l w F S2
theorem Star.mono {w : World} {F F' : Nat → Prop} : ∀ {l : List Asr} {S S' : Nat → Prop}, (∀ k, F k → F' k) → (∀ k, S k → S' k) → Star l w F S → Star l w F' S'
  | [], _, _, _, _, _ => trivial
  | a :: l, S, S', hF, hS, ⟨S1, S2, h1, h2, h3, h4, h5⟩ => ⟨S1, S2, fun k h => hS k (h1 k h), fun k h => hS k (h2 k h), h3, a.mono hF (fun _ h => h) h4, Star.mono hF (fun _ h => h) h5⟩
theorem Star.move {w w' : World} {F : Nat → Prop} : ∀ {l : List Asr} {S : Nat → Prop}, (∀ k, F k ∨ S k → w'.heap[k]? = w.heap[k]?) → Star l w F S → Star l w' F S
  | [], _, _, _ => trivial
  | a :: l, S, hm, ⟨S1, S2, h1, h2, h3, h4, h5⟩ => ⟨S1, S2, h1, h2, h3, a.move (fun k hk => hm k (hk.elim .inl fun h => .inr (h1 k h))) h4, Star.move (fun k hk => hm k (hk.elim .inl fun h => .inr (h2 k h))) h5⟩
theorem Star.bound {w : World} {F : Nat → Prop} : ∀ {l : List Asr} {S : Nat → Prop}, Star l w F S → Star l w (fun k => F k ∧ k < w.heap.size) (fun k => S k ∧ k < w.heap.size)
  | [], _, _ => trivial
  | a :: l, S, ⟨S1, S2, h1, h2, h3, h4, h5⟩ => ⟨_, _, fun k h => ⟨h1 k h.1, h.2⟩, fun k h => ⟨h2 k h.1, h.2⟩, fun k h h' => h3 k h.1 h'.1, a.bound h4, Star.bound h5⟩
theorem Star.step {w w' : World} {F : Nat → Prop} {l : List Asr} {S : Nat → Prop} (hm : ∀ k, F k ∨ S k → k < w.heap.size → w'.heap[k]? = w.heap[k]?) (h : Star l w F S) : Star l w' F S :=
  Star.mono (fun _ hk => hk.1) (fun _ hk => hk.1) (Star.move (fun k hk => hk.elim (fun h => hm k (.inl h.1) h.2) (fun h => hm k (.inr h.1) h.2)) (Star.bound h))
theorem Star.perm {w : World} {F : Nat → Prop} {l l' : List Asr} (h : l.Perm l') : ∀ {S : Nat → Prop}, Star l w F S → Star l' w F S := by
  induction h with
  | nil => exact fun h => h
  | cons a _ ih => rintro S ⟨S1, S2, h1, h2, h3, h4, h5⟩; exact ⟨S1, S2, h1, h2, h3, h4, ih h5⟩
  | swap a b l =>
    rintro S ⟨S1, S2, h1, h2, h3, h4, T1, T2, k1, k2, k3, k4, k5⟩
    exact ⟨T1, fun k => S1 k ∨ T2 k, fun k h => h2 k (k1 k h), fun k h => h.elim (h1 k) (fun h => h2 k (k2 k h)), fun k h h' => h'.elim (fun h' => h3 k h' (k1 k h)) (k3 k h), k4, S1, T2, fun k h => .inl h, fun k h => .inr h, fun k h h' => h3 k h (k2 k h'), h4, k5⟩
  | trans _ _ ih1 ih2 => exact fun h => ih2 (ih1 h)
theorem Star.append {w : World} {F : Nat → Prop} {l2 : List Asr} : ∀ {l1 : List Asr} {S1 S2 : Nat → Prop}, (∀ k, S1 k → ¬ S2 k) → Star l1 w F S1 → Star l2 w F S2 → Star (l1 ++ l2) w F (fun k => S1 k ∨ S2 k)
  | [], S1, S2, hd, _, h2 => h2.mono (fun _ h => h) (fun _ h => .inr h)
  | a :: l1, S1, S2, hd, ⟨T1, T2, k1, k2, k3, k4, k5⟩, h2 =>
    ⟨T1, fun k => T2 k ∨ S2 k, fun k h => .inl (k1 k h), fun k h => h.elim (fun h => .inl (k2 k h)) .inr, fun k h h' => h'.elim (k3 k h) (hd k (k1 k h)), k4, Star.append (fun k h => hd k (k2 k h)) k5 h2⟩
theorem Star.item {w : World} {F : Nat → Prop} {a : Asr} : ∀ {l : List Asr} {S : Nat → Prop}, a ∈ l → Star l w F S → ∃ S', (∀ k, S' k → S k) ∧ a.P w F S'
  | b :: l, S, h, ⟨S1, S2, h1, h2, _, h4, h5⟩ => by
    rcases List.mem_cons.1 h with rfl | h
    · exact ⟨S1, h1, h4⟩
    · obtain ⟨S', k1, k2⟩ := Star.item h h5
      exact ⟨S', fun k hk => h2 k (k1 k hk), k2⟩
structure Keep (M : Nat → Prop) (w w' : World) : Prop where
  os : w'.os = w.os
  tape : w'.tape = w.tape
  output : w'.output = w.output
  size : w.heap.size ≤ w'.heap.size
  block : ∀ k, k < w.heap.size → ¬ M k → w'.heap[k]? = w.heap[k]?
section
variable {M M1 : Nat → Prop} {w0 W W1 : World}
theorem Keep.refl (M : Nat → Prop) (w : World) : Keep M w w := ⟨rfl, rfl, rfl, Nat.le_refl _, fun _ _ _ => rfl⟩
theorem Keep.grown (h : Keep M w0 W) {g : Option Nat} (hg : W.grownBy W1 g) (hM : ∀ k, g = some k → M k ∨ w0.heap.size ≤ k) : Keep M w0 W1 :=
  ⟨hg.os.trans h.os, hg.tape.trans h.tape, hg.output.trans h.output, Nat.le_trans h.size hg.size, fun k hk hm => (hg.block k (Nat.lt_of_lt_of_le hk h.size) (fun e => (hM k e.symm).elim hm (fun h => Nat.not_le.2 hk h))).trans (h.block k hk hm)⟩
theorem Keep.trans (h : Keep M w0 W) (h1 : Keep M1 W W1) (hM : ∀ k, M1 k → M k ∨ w0.heap.size ≤ k) : Keep M w0 W1 :=
  ⟨h1.os.trans h.os, h1.tape.trans h.tape, h1.output.trans h.output, Nat.le_trans h.size h1.size, fun k hk hm => (h1.block k (Nat.lt_of_lt_of_le hk h.size) (fun e => (hM k e).elim hm (fun h => Nat.not_le.2 hk h))).trans (h.block k hk hm)⟩
theorem Keep.below (h : Keep (fun _ => False) w0 W) : Below w0.heap.size w0 W := ⟨h.os, h.tape, h.output, h.size, fun k hk => h.block k hk id⟩
end
def MemM (M Z : Nat → Prop) (w0 W : World) (R l : List Asr) : Prop :=
  (Keep M w0 W ∧ ∀ k, Z k → k < w0.heap.size ∧ ¬ M k) ∧ ∃ F S : Nat → Prop, (∀ k, F k → Z k ∨ M k ∨ w0.heap.size ≤ k) ∧ (∀ k, S k → M k ∨ w0.heap.size ≤ k) ∧ (∀ k, F k → ¬ S k) ∧ (∀ k, F k → k < W.heap.size) ∧ (∀ k, S k → k < W.heap.size) ∧ (∀ a ∈ R, a.P W F (fun _ => False)) ∧ Star l W F S
abbrev Mem (w0 W : World) (R l : List Asr) : Prop := MemM (fun _ => False) (fun _ => False) w0 W R l
section
variable {M Z : Nat → Prop} {w0 W W1 : World} {R R1 l l1 : List Asr} {a b c : Asr}
theorem MemM.startM {M Z : Nat → Prop} {w : World} (hZ : ∀ k, Z k → k < w.heap.size ∧ ¬ M k) : MemM M Z w w [] [] := ⟨⟨Keep.refl _ _, hZ⟩, fun _ => False, fun _ => False, fun _ h => h.elim, fun _ h => h.elim, fun _ h => h.elim, fun _ h => h.elim, fun _ h => h.elim, (fun a h => by cases h), trivial⟩
theorem MemM.start (w : World) : Mem w w [] [] := MemM.startM (fun _ h => h.elim)
theorem MemM.keep (H : MemM M Z w0 W R l) : Keep M w0 W := H.1.1
theorem MemM.below (H : Mem w0 W R l) : Below w0.heap.size w0 W := H.1.1.below
theorem MemM.grown (H : MemM M Z w0 W R l) (hg : W.grownBy W1 none) : MemM M Z w0 W1 R l := by
  obtain ⟨hB, F, S, h1, h2, h3, h4, h5, h6, h7⟩ := H
  have hm : ∀ k, k < W.heap.size → W1.heap[k]? = W.heap[k]? := fun k hk => hg.block k hk (by simp)
  exact ⟨⟨hB.1.grown hg (by simp), hB.2⟩, F, S, h1, h2, h3, fun k h => Nat.lt_of_lt_of_le (h4 k h) hg.size, fun k h => Nat.lt_of_lt_of_le (h5 k h) hg.size, fun a ha => a.step (fun k _ hk => hm k hk) (h6 a ha), h7.step (fun k _ hk => hm k hk)⟩
theorem MemM.alloc (H : MemM M Z w0 W R l) (o : Obj) : MemM M Z w0 (W.alloc o) R l := H.grown (World.grownBy_alloc W o none)
theorem MemM.drew (H : MemM M Z w0 W R l) : MemM M Z w0 W.drew R l := H.grown ⟨rfl, rfl, rfl, Nat.le_refl _, fun _ _ _ => rfl⟩
theorem MemM.drewN (H : MemM M Z w0 W R l) (n : Nat) : MemM M Z w0 (W.drewN n) R l := H.grown ⟨rfl, rfl, rfl, Nat.le_refl _, fun _ _ _ => rfl⟩
theorem MemM.perm (H : MemM M Z w0 W R l) (h : l.Perm l1) : MemM M Z w0 W R l1 := by
  obtain ⟨hB, F, S, h1, h2, h3, h4, h5, h6, h7⟩ := H
  exact ⟨hB, F, S, h1, h2, h3, h4, h5, h6, h7.perm h⟩
theorem MemM.pull1 (H : MemM M Z w0 W R (a :: b :: l)) : MemM M Z w0 W R (b :: a :: l) := H.perm (.swap _ _ _)
theorem MemM.pull2 (H : MemM M Z w0 W R (a :: b :: c :: l)) : MemM M Z w0 W R (c :: a :: b :: l) := H.perm (List.Perm.trans (.cons _ (.swap _ _ _)) (.swap _ _ _))
theorem MemM.pull {l2 : List Asr} (H : MemM M Z w0 W R (l1 ++ b :: l2)) : MemM M Z w0 W R (b :: (l1 ++ l2)) := H.perm List.perm_middle
theorem MemM.push {l2 : List Asr} (H : MemM M Z w0 W R (b :: (l1 ++ l2))) : MemM M Z w0 W R (l1 ++ b :: l2) := H.perm List.perm_middle.symm
theorem MemM.drop (H : MemM M Z w0 W R (a :: l)) : MemM M Z w0 W R l := by
  obtain ⟨hB, F, S, h1, h2, h3, h4, h5, h6, S1, S2, k1, k2, k3, k4, k5⟩ := H
  exact ⟨hB, F, S, h1, h2, h3, h4, h5, h6, k5.mono (fun _ h => h) k2⟩
theorem MemM.onlyR (H : MemM M Z w0 W R l) (h : ∀ x ∈ R1, x ∈ R) : MemM M Z w0 W R1 l := by
  obtain ⟨hB, F, S, h1, h2, h3, h4, h5, h6, h7⟩ := H
  exact ⟨hB, F, S, h1, h2, h3, h4, h5, fun x hx => h6 x (h x hx), h7⟩
theorem MemM.noR (H : MemM M Z w0 W R l) : MemM M Z w0 W [] l := H.onlyR (fun _ h => by cases h)
theorem MemM.freeze (H : MemM M Z w0 W R (a :: l)) (f : ∀ F S : Nat → Prop, (∀ k, F k → ¬ S k) → a.P W F S → b.P W (fun k => F k ∨ S k) (fun _ => False)) : MemM M Z w0 W (b :: R) l := by
  obtain ⟨hB, F, S, h1, h2, h3, h4, h5, h6, S1, S2, k1, k2, k3, k4, k5⟩ := H
  refine ⟨hB, fun k => F k ∨ S1 k, S2, fun k h => h.elim (h1 k) (fun h => .inr (h2 k (k1 k h))), fun k h => h2 k (k2 k h), fun k h h' => h.elim (fun h => h3 k h (k2 k h')) (fun h => k3 k h h'), fun k h => h.elim (h4 k) (fun h => h5 k (k1 k h)), fun k h => h5 k (k2 k h), fun x hx => ?_, k5.mono (fun k h => .inl h) (fun _ h => h)⟩
  rcases List.mem_cons.1 hx with rfl | hx
  · exact f _ _ (fun k hk h => h3 k hk (k1 k h)) k4
  · exact x.mono (fun k h => .inl h) (fun _ h => h) (h6 x hx)
theorem MemM.item (H : MemM M Z w0 W R l) (ha : a ∈ l) : ∃ F S : Nat → Prop, (∀ k, F k → ¬ S k) ∧ (∀ k, F k → k < W.heap.size) ∧ (∀ k, S k → k < W.heap.size) ∧ a.P W F S := by
  obtain ⟨hB, F, S, h1, h2, h3, h4, h5, h6, h7⟩ := H
  obtain ⟨S', k1, k2⟩ := h7.item ha
  exact ⟨F, S', fun k hk h => h3 k hk (k1 k h), h4, fun k h => h5 k (k1 k h), k2⟩
theorem MemM.new (H : MemM M Z w0 W R l) (hg : W.grownBy W1 none) (hb : b.P W1 (fun _ => False) (fun k => W.heap.size ≤ k)) : MemM M Z w0 W1 R (b :: l) := by
  have H1 := H
  obtain ⟨hB, F, S, h1, h2, h3, h4, h5, h6, h7⟩ := H
  obtain ⟨hB1, _⟩ := H1.grown hg
  have hm : ∀ k, k < W.heap.size → W1.heap[k]? = W.heap[k]? := fun k hk => hg.block k hk (by simp)
  refine ⟨hB1, F, fun k => S k ∨ (W.heap.size ≤ k ∧ k < W1.heap.size), h1, fun k h => h.elim (h2 k) (fun h => .inr (Nat.le_trans hB.1.size h.1)), fun k h h' => h'.elim (h3 k h) (fun h' => Nat.not_le.2 (h4 k h) h'.1), fun k h => Nat.lt_of_lt_of_le (h4 k h) hg.size, fun k h => h.elim (fun h => Nat.lt_of_lt_of_le (h5 k h) hg.size) (fun h => h.2), fun a ha => a.step (fun k _ hk => hm k hk) (h6 a ha), ?_⟩
  exact ⟨fun k => W.heap.size ≤ k ∧ k < W1.heap.size, S, fun k h => .inr h, fun k h => .inl h, fun k h h' => Nat.not_le.2 (h5 k h') h.1, b.mono (fun _ h => h.1.elim) (fun _ h => h) (b.bound hb), h7.step (fun k _ hk => hm k hk)⟩
theorem MemM.open1 (H : MemM M Z w0 W R (a :: l)) : ∃ F S : Nat → Prop, a.P W F S ∧ (∀ k, F k → ¬ S k) ∧ (∀ k, F k → k < W.heap.size) ∧ (∀ k, S k → (M k ∨ w0.heap.size ≤ k) ∧ k < W.heap.size) ∧ (∀ x ∈ R, x.P W F (fun _ => False)) ∧
    ∀ (W1 : World) (b : Asr) (g : Option Nat), W.grownBy W1 g → (∀ k, g = some k → S k) → b.P W1 F (fun k => S k ∨ W.heap.size ≤ k) → MemM M Z w0 W1 R (b :: l) := by
  obtain ⟨hB, F, S, h1, h2, h3, h4, h5, h6, S1, S2, k1, k2, k3, k4, k5⟩ := H
  refine ⟨F, S1, k4, fun k h h' => h3 k h (k1 k h'), h4, fun k h => ⟨h2 k (k1 k h), h5 k (k1 k h)⟩, h6, fun W1 b g hg hgS hb => ?_⟩
  have hm : ∀ k, k < W.heap.size → ¬ S1 k → W1.heap[k]? = W.heap[k]? := fun k hk hS => hg.block k hk (fun e => hS (hgS k e.symm))
  refine ⟨⟨hB.1.grown hg (fun k e => h2 k (k1 k (hgS k e))), hB.2⟩, F, fun k => S k ∨ (W.heap.size ≤ k ∧ k < W1.heap.size), h1, fun k h => h.elim (h2 k) (fun h => .inr (Nat.le_trans hB.1.size h.1)), fun k h h' => h'.elim (h3 k h) (fun h' => Nat.not_le.2 (h4 k h) h'.1), fun k h => Nat.lt_of_lt_of_le (h4 k h) hg.size, fun k h => h.elim (fun h => Nat.lt_of_lt_of_le (h5 k h) hg.size) (fun h => h.2), fun x hx => x.step (fun k hF hk => hm k hk (fun hS => hF.elim (fun hF => h3 k hF (k1 k hS)) id)) (h6 x hx), ?_⟩
  refine ⟨fun k => (S1 k ∨ W.heap.size ≤ k) ∧ k < W1.heap.size, S2, fun k h => h.1.elim (fun h => .inl (k1 k h)) (fun h' => .inr ⟨h', h.2⟩), fun k h => .inl (k2 k h), fun k h h' => h.1.elim (fun h => k3 k h h') (fun h => Nat.not_le.2 (h5 k (k2 k h')) h), b.mono (fun _ h => h.1) (fun _ h => h) (b.bound hb), k5.step (fun k hF hk => hm k hk (fun hS => hF.elim (fun hF => h3 k hF (k1 k hS)) (fun h => k3 k hS h)))⟩
theorem MemM.call (H : MemM M Z w0 W R l) (h : Mem W W1 R1 l1) : MemM M Z w0 W1 (R1 ++ R) (l1 ++ l) := by
  obtain ⟨hB, F, S, h1, h2, h3, h4, h5, h6, h7⟩ := H
  obtain ⟨hB', F', S', h1', h2', h3', h4', h5', h6', h7'⟩ := h
  have g1 : ∀ k, F' k → W.heap.size ≤ k := fun k h => (h1' k h).elim False.elim (fun h => h.elim False.elim id)
  have g2 : ∀ k, S' k → W.heap.size ≤ k := fun k h => (h2' k h).elim False.elim id
  have hm : ∀ k, k < W.heap.size → W1.heap[k]? = W.heap[k]? := fun k hk => hB'.1.block k hk id
  refine ⟨⟨hB.1.trans hB'.1 (fun k h => h.elim), hB.2⟩, fun k => F' k ∨ F k, fun k => S' k ∨ S k, fun k h => h.elim (fun h => .inr (.inr (Nat.le_trans hB.1.size (g1 k h)))) (h1 k), fun k h => h.elim (fun h => .inr (Nat.le_trans hB.1.size (g2 k h))) (h2 k), fun k h h' => h.elim (fun h => h'.elim (h3' k h) (fun h' => Nat.not_le.2 (h5 k h') (g1 k h))) (fun h => h'.elim (fun h' => Nat.not_le.2 (h4 k h) (g2 k h')) (h3 k h)), fun k h => h.elim (h4' k) (fun h => Nat.lt_of_lt_of_le (h4 k h) hB'.1.size), fun k h => h.elim (h5' k) (fun h => Nat.lt_of_lt_of_le (h5 k h) hB'.1.size), fun x hx => ?_, ?_⟩
  · rcases List.mem_append.1 hx with hx | hx
    · exact x.mono (fun k h => .inl h) (fun _ h => h) (h6' x hx)
    · exact x.mono (fun k h => .inr h) (fun _ h => h) (x.step (fun k _ hk => hm k hk) (h6 x hx))
  · exact Star.append (fun k h h' => Nat.not_le.2 (h5 k h') (g2 k h)) (h7'.mono (fun k h => .inl h) (fun _ h => h)) ((h7.step (fun k _ hk => hm k hk)).mono (fun k h => .inr h) (fun _ h => h))
end
section
variable {α : Type} {d : Rep α} {e : Nat} {M Z : Nat → Prop} {w0 W : World} {R l : List Asr} {v : Value} {xs : List α} {A : Option Addr}
theorem MemM.arg (H : Mem w0 W R l) (h : Row d w0 (· < w0.heap.size) A xs) : Row d W (· < W.heap.size) A xs :=
  (h.move fun k hk => H.keep.block k hk id).mono fun k hk => Nat.lt_of_lt_of_le hk H.keep.size
theorem MemM.rd (H : MemM M Z w0 W R l) (h : own d e v xs ∈ l) (hd : 0 < d.sz := by decide) : ∃ A c, v = .slice A xs.length c ∧ xs.length ≤ c ∧ Row d W (· < W.heap.size) A xs := by
  obtain ⟨F, S, _, h1, h2, h3⟩ := H.item h
  obtain ⟨A, c, e1, h4, h5⟩ := Own.row hd h3
  exact ⟨A, c, e1, h4, h5.mono fun k hk => hk.elim (h1 k) (h2 k)⟩
theorem MemM.rdx {n c : Nat} (H : MemM M Z w0 W R l) (h : own d e (.slice A n c) xs ∈ l) (hd : 0 < d.sz := by decide) : n = xs.length ∧ xs.length ≤ c ∧ Row d W (· < W.heap.size) A xs := by
  obtain ⟨A', c', e1, h1, h2⟩ := H.rd h hd
  injection e1 with e1 e2 e3
  subst e1; subst e2; subst e3
  exact ⟨rfl, h1, h2⟩
theorem row_of_P {F : Nat → Prop} (h : (row d A xs).P W F (fun _ => False)) : Row d W F A xs := by
  have h3 : Row d W (fun k => F k ∨ False) A xs := h
  exact h3.mono fun k hk => hk.elim id False.elim
theorem slK {c : Nat} (hc : xs.length ≤ c) (h : row d A xs ∈ R) : ∀ F : Nat → Prop, (∀ x ∈ R, x.P W F (fun _ => False)) → (slice d).K W F xs [.slice A xs.length c] :=
  fun F hF => ⟨A, c, rfl, hc, row_of_P (hF _ h)⟩
theorem MemM.boxcell {g t : Nat} {cs : List Value} (H : MemM M Z w0 W R l) (h : box g t cs ∈ l) (j : Nat) (u : Value) (hj : cs[j]? = some u) : W.cell? ⟨g, j, none⟩ = some u ∧ W.frozen? ⟨g, j, none⟩ = false := by
  obtain ⟨F, S, _, _, _, _, h2⟩ := H.item h
  simp [World.cell?, World.frozen?, h2]
  simpa using hj
theorem MemM.still (H : MemM M Z w0 W R (own d e v xs :: l)) (hd : 0 < d.sz := by decide) : ∃ A c, v = .slice A xs.length c ∧ xs.length ≤ c ∧ MemM M Z w0 W (row d A xs :: R) l := by
  obtain ⟨A, c, e1, h4, _⟩ := H.rd (.head _) hd
  refine ⟨A, c, e1, h4, H.freeze fun F S _ h => ?_⟩
  obtain ⟨A', c', e2, _, h5⟩ := Own.row hd h
  rw [e1] at e2
  injection e2 with e2
  subst e2
  have h6 : Row d W (fun k => (F k ∨ S k) ∨ False) A xs := h5.mono fun k hk => Or.inl hk
  exact h6
end
section
variable {P : Program} {ops : Array Oper} {rest : List Oper} {o : Oper} {a : Act} {Q : Exit → Act → World → Prop} {W : World}
theorem gate_dst {N : Tmp} (_hN : o.dst = some N) (h : wpList P ops Q (o :: rest) a W) : wpList P ops Q (o :: rest) a W := h
end
section
variable {P : Program} {ops : Array Oper} {rest : List Oper} {o : Oper} {a : Act} {Q : Exit → Act → World → Prop} {α : Type} {d : Rep α} {e : TypeId} {M Z : Nat → Prop} {w0 W : World} {R l : List Asr} {v : Value} {xs : List α}
theorem own_grew {F S : Nat → Prop} {w1 : World} {v1 : Value} {ys : List α} {cells : List Value} (h1 : ∀ k, v.ownBlock = some k → S k) (hr : Reps (d.K W (fun k => F k ∨ (S k ∧ some k ≠ v.ownBlock))) d.sz ys cells)
    (hF : ∀ k, F k → ¬ S k) (hown : w1.ownsRow 0 e d.sz v1 ys.length cells) (hg : W.grownBy w1 v.ownBlock) (hat : v1.ownBlock = v.ownBlock ∨ ∃ b, v1.ownBlock = some b ∧ W.heap.size ≤ b) :
    Own d e w1 F (fun k => S k ∨ W.heap.size ≤ k) v1 ys := by
  refine ⟨fun k hk => ?_, cells, hown, hr.imp fun p c hp => ?_⟩
  · rcases hat with hat | ⟨b, hb, hle⟩
    · exact .inl (h1 k (hat ▸ hk))
    · rw [hb] at hk; injection hk with hk; subst hk; exact .inr hle
  · have h2 := d.bound hp
    have h3 := d.move (w' := w1) (fun k hk => hg.block k hk.2 (fun e => hk.1.elim (fun h => hF k h (h1 k e.symm)) (fun h => h.2 e))) h2
    refine d.mono (fun k hk => hk.1.elim .inl fun h => .inr ⟨.inl h.1, ?_⟩) h3
    rcases hat with hat | ⟨b, hb, hle⟩
    · rw [hat]; exact h.2
    · rw [hb]; intro he; injection he with he; have := hk.2; omega
theorem wp_append (H : MemM M Z w0 W R (own d e v xs :: l)) (hgd : o.guard = none) (s x : Operand) (t : TypeId) (z : Value) (bytes : Nat)
    (ho : o.op = .call { callee := .builtin .append, args := #[s, x], argTypes := #[t, t] }) (ht : P.underlying t = some (.slice e))
    (hinfo : (P.info? e).map (fun i => (i.zero, i.size, i.bytes)) = some (some z, d.sz, bytes)) (hz : z.cells.size = d.sz) (hs0 : 0 < d.sz) (hb0 : 0 < bytes)
    (p : α) (cs : List Value) (hs : a.eval s = v) (hx : a.eval x = .slice (some ⟨W.heap.size, 0, none⟩) 1 1)
    (hp : ∀ F : Nat → Prop, (∀ x ∈ R, x.P W F (fun _ => False)) → d.K W F p cs) (hl : (xs.length + 1) * bytes ≤ 140737488355328)
    (h : ∀ v1 W1, MemM M Z w0 W1 R (own d e v1 (xs ++ [p]) :: l) → wpList P ops Q rest (a.put o.dst v1) W1) :
    wpList P ops Q (o :: rest) a (W.alloc (.cells cs.toArray e)) := by
  obtain ⟨i0, hi, hzz⟩ := Option.map_eq_some_iff.1 hinfo
  simp only [Prod.mk.injEq] at hzz
  obtain ⟨hz0, hz1, hz2⟩ := hzz
  have hlen : xs.length + 1 ≤ 140737488355328 := Nat.le_trans (Nat.le_mul_of_pos_right _ hb0) hl
  obtain ⟨F, S, ⟨h1, inner, hown, hr⟩, h2, h3, h4, h5, h6⟩ := H.open1
  have hK := hp F h5
  have hcl := d.len hK
  refine wpList_append_own_at (W.alloc (.cells cs.toArray e)) hgd s x t ho 0 e i0 z d.sz bytes ht hi hz0 hz1 hz2 hz hs0 v xs.length inner hs (hown.alloc _) ⟨W.heap.size, 0, none⟩ 1 1 cs hx (by rw [hcl]; simp)
    (by simpa using World.news_of_block (cs := cs.toArray) (t := e) (fr := (0, 0)) (heap_alloc_new W (.cells cs.toArray e))) (d.one hK) (by simp only [maxLen]; omega) hl (Nat.zero_le _) ?_
  intro v1 w1 hown1 hg _ hat
  have hg1 := World.grownBy.trans (World.grownBy_alloc W (.cells cs.toArray e) v.ownBlock) hg
  have hat1 : v1.ownBlock = v.ownBlock ∨ ∃ b, v1.ownBlock = some b ∧ W.heap.size ≤ b := by
    rcases hat with hat | hat
    · exact .inl hat
    · exact .inr ⟨_, hat, by simp⟩
  have hr1 : Reps (d.K W (fun k => F k ∨ (S k ∧ some k ≠ v.ownBlock))) d.sz (xs ++ [p]) (inner ++ cs) := hr.app (Reps.single (d.mono (fun k hk => .inl hk) hK) hcl)
  exact h v1 w1 (h6 w1 _ v.ownBlock hg1 (fun k hk => h1 k hk) (own_grew h1 hr1 h2 (by rw [List.length_append]; exact hown1) hg1 hat1))
theorem MemM.box (H : MemM M Z w0 W R l) (t : TypeId) (cs : List Value) : MemM M Z w0 (W.alloc (.cells cs.toArray t)) R (box W.heap.size t cs :: l) :=
  H.new (World.grownBy_alloc W _ none) ⟨Nat.le_refl _, heap_alloc_new W _⟩
end
section
variable {α : Type} {d : Rep α} {e e2 : TypeId} {M Z : Nat → Prop} {w0 W : World} {R l : List Asr} {v : Value} {xs : List α}
theorem MemM.nilItem (H : MemM M Z w0 W R l) (d : Rep α) (e : TypeId) : MemM M Z w0 W R (own d e (.slice none 0 0) [] :: l) := by
  obtain ⟨hB, F, S, h1, h2, h3, h4, h5, h6, h7⟩ := H
  exact ⟨hB, F, S, h1, h2, h3, h4, h5, h6, fun _ => False, S, fun _ h => h.elim, fun _ h => h, fun _ h => h.elim, Own.nil, h7⟩
theorem Own.one {F S : Nat → Prop} (h : Own d e W F S v xs) : ∃ A c, v = .slice A xs.length c := by
  obtain ⟨_, cells, ho, _⟩ := h
  rcases ho.2 with ⟨rfl, h0⟩ | ⟨g, cap, cur, rfl, _⟩
  · exact ⟨none, 0, by rw [h0]⟩
  · exact ⟨_, cap, rfl⟩
theorem MemM.one (H : MemM M Z w0 W R l) (h : own d e v xs ∈ l) : ∃ A c, v = .slice A xs.length c := by
  obtain ⟨F, S, _, _, _, h3⟩ := H.item h
  exact Own.one h3
end
end Go.Proofs.Ytnhdfjcecgjlgaa.Mq
