/- Words of this work: how Go data lie in memory (Rep, Row, Own), what a call holds while it runs (Mem), and what each operation does to_ that. Nothing here names the program. -/
import Derived.Below
import Derived.Maps.AppendAt
import Derived.OwnWalk
import Derived.Laws.MakeOwn
import Derived.Laws.OwnMore
import Derived.Deep.OwnRows
import Derived.Deep.AppendLies
import Derived.Tactics
import Derived.Laws.Slices
import Derived.WalkKit
import Derived.KernelRfl
import Derived.RowKit3
import Derived.Deep.LoopGhost
import Derived.Deep.QuietTactic
import Derived.BigQuiet
import Derived.Laws.Rows
import Derived.Laws.IdiomCopy
import Derived.RowKit
namespace Go.Proofs.Ytcagkdgpoijkoaa.Mq
open Go.RowKit
set_option linter.unusedVariables false
theorem hide {p : Prop} (h : p) : Hid p := h
theorem add_plain (g j : Nat) : (⟨g, 0, none⟩ : Addr).add j = ⟨g, j, none⟩ := by unfold Addr.add; split <;> simp_all
theorem add_add (a : Addr) (i j : Nat) : (a.add i).add j = a.add (i + j) := by
  unfold Addr.add
  by_cases h1 : i = 0 <;> by_cases h2 : j = 0 <;> simp [h1, h2, Nat.add_assoc]
theorem add_block (a : Addr) (i : Nat) : (a.add i).block = a.block := by unfold Addr.add; split <;> rfl
theorem add_zero (a : Addr) : a.add 0 = a := rfl
theorem max2_int (k k' : IntKind) (x y : Int) : Builtin.max2 (.int k x) (.int k' y) = pure (.int k (max x y)) := by
  simp only [Builtin.max2, gt_iff_lt]
  rw [show (if x < y then y else x) = max x y by rw [Int.max_def]; split <;> split <;> omega]
theorem min2_int (k k' : IntKind) (x y : Int) : Builtin.min2 (.int k x) (.int k' y) = pure (.int k (min x y)) := by
  simp only [Builtin.min2]
  rw [show (if y < x then y else x) = min x y by rw [Int.min_def]; split <;> split <;> omega]
theorem max_two (ats : Array TypeId) (ty : TypeId) (a b : Value) : Builtin.max_ ats ty #[a, b] = (Builtin.max2 a b >>= fun s => pure s) := by simp only [Builtin.max_, List.foldlM_cons, List.foldlM_nil]
theorem min_two (ats : Array TypeId) (ty : TypeId) (a b : Value) : Builtin.min_ ats ty #[a, b] = (Builtin.min2 a b >>= fun s => pure s) := by simp only [Builtin.min_, List.foldlM_cons, List.foldlM_nil]
theorem min_three (ats : Array TypeId) (ty : TypeId) (a b c : Value) : Builtin.min_ ats ty #[a, b, c] = (Builtin.min2 a b >>= fun s => Builtin.min2 s c >>= fun s => pure s) := by simp only [Builtin.min_, List.foldlM_cons, List.foldlM_nil]
structure Rep (α : Type) where
  sz : Nat
  K : World → (Nat → Prop) → α → List Value → Prop
  len : ∀ {w S x cs}, K w S x cs → cs.length = sz
  one : ∀ {w S x cs}, K w S x cs → ∀ u ∈ cs, u.oneCell' = true
  mono : ∀ {w : World} {S S' : Nat → Prop} {x cs}, (∀ k, S k → S' k) → K w S x cs → K w S' x cs
  move : ∀ {w w' : World} {S x cs}, (∀ k, S k → w'.heap[k]? = w.heap[k]?) → K w S x cs → K w' S x cs
  bound : ∀ {w : World} {S x cs}, K w S x cs → K w (fun k => S k ∧ k < w.heap.size) x cs
theorem Rep.step {α : Type} (d : Rep α) {w w' : World} {S : Nat → Prop} {x : α} {cs : List Value} (hm : ∀ k, S k → k < w.heap.size → w'.heap[k]? = w.heap[k]?) (h : d.K w S x cs) : d.K w' S x cs :=
  d.mono (fun _ hk => hk.1) (d.move (fun k hk => hm k hk.1 hk.2) (d.bound h))
def Row {α : Type} (d : Rep α) (w : World) (S : Nat → Prop) (A : Option Addr) (xs : List α) : Prop :=
  xs.length ≤ maxLen ∧ (0 < xs.length → ∃ ad, A = some ad ∧ S ad.block ∧ ad.block < w.heap.size ∧ ∀ (i : Nat) x, xs[i]? = some x → ∃ cs, d.K w S x cs ∧ ∀ (j : Nat) u, cs[j]? = some u → w.cell? (ad.add (i * d.sz + j)) = some u)
section
variable {α : Type} {d : Rep α} {w w' : World} {S S' : Nat → Prop} {A : Option Addr} {xs : List α}
theorem Row.nil : Row d w S A [] := ⟨by simp, fun h => absurd h (by simp)⟩
theorem Row.len (h : Row d w S A xs) : xs.length ≤ maxLen := h.1
theorem Row.mono (hS : ∀ k, S k → S' k) (h : Row d w S A xs) : Row d w S' A xs := by
  refine ⟨h.1, fun hp => ?_⟩
  obtain ⟨ad, e, h1, h2, h3⟩ := h.2 hp
  exact ⟨ad, e, hS _ h1, h2, fun i x hx => by obtain ⟨cs, hK, hc⟩ := h3 i x hx; exact ⟨cs, d.mono hS hK, hc⟩⟩
theorem lt_of_same {w w' : World} {k : Nat} (h : w'.heap[k]? = w.heap[k]?) (hk : k < w.heap.size) : k < w'.heap.size := by
  rw [Array.getElem?_eq_getElem hk] at h
  rcases Nat.lt_or_ge k w'.heap.size with h1 | h1
  · exact h1
  · rw [Array.getElem?_eq_none h1] at h; cases h
theorem Row.bound (h : Row d w S A xs) : Row d w (fun k => S k ∧ k < w.heap.size) A xs := by
  refine ⟨h.1, fun hp => ?_⟩
  obtain ⟨ad, e, h1, h2, h3⟩ := h.2 hp
  exact ⟨ad, e, ⟨h1, h2⟩, h2, fun i x hx => by obtain ⟨cs, hK, hc⟩ := h3 i x hx; exact ⟨cs, d.bound hK, hc⟩⟩
theorem Row.move (hm : ∀ k, S k → w'.heap[k]? = w.heap[k]?) (h : Row d w S A xs) : Row d w' S A xs := by
  refine ⟨h.1, fun hp => ?_⟩
  obtain ⟨ad, e, h1, h2, h3⟩ := h.2 hp
  refine ⟨ad, e, h1, lt_of_same (hm _ h1) h2, fun i x hx => ?_⟩
  obtain ⟨cs, hK, hc⟩ := h3 i x hx
  exact ⟨cs, d.move hm hK, fun j u hu => (World.cell?_of_block (w := w) (w' := w') (by rw [add_block]; exact hm _ h1)).trans (hc j u hu)⟩
theorem Row.step (hm : ∀ k, S k → k < w.heap.size → w'.heap[k]? = w.heap[k]?) (h : Row d w S A xs) : Row d w' S A xs :=
  Row.mono (fun _ hk => hk.1) (Row.move (fun k hk => hm k hk.1 hk.2) (Row.bound h))
theorem Row.at_ (h : Row d w S A xs) {i : Nat} {x : α} (hx : xs[i]? = some x) : ∃ ad cs, A = some ad ∧ ad.block < w.heap.size ∧ d.K w S x cs ∧ ∀ (j : Nat) u, cs[j]? = some u → w.cell? (ad.add (i * d.sz + j)) = some u := by
  have hl : i < xs.length := by
    rcases Nat.lt_or_ge i xs.length with h1 | h1
    · exact h1
    · rw [List.getElem?_eq_none h1] at hx; cases hx
  obtain ⟨ad, e, h1, h2, h3⟩ := h.2 (by omega)
  obtain ⟨cs, hK, hc⟩ := h3 i x hx
  exact ⟨ad, cs, e, h2, hK, hc⟩
end
def flat {α : Type} (sz : Nat) (enc : α → List Value) (hl : ∀ x, (enc x).length = sz) (h1 : ∀ x, ∀ u ∈ enc x, u.oneCell' = true) : Rep α where
  sz := sz
  K := fun _ _ x cs => cs = enc x
  len := fun h => by rw [h]; exact hl _
  one := fun h u hu => by rw [h] at hu; exact h1 _ u hu
  mono := fun _ h => h
  move := fun _ h => h
  bound := fun h => h
def int (k : IntKind) : Rep Int := flat 1 (fun x => [.int k x]) (fun _ => rfl) (fun x u hu => by rw [List.mem_singleton.1 hu]; rfl)
def bool : Rep Bool := flat 1 (fun x => [.bool x]) (fun _ => rfl) (fun x u hu => by rw [List.mem_singleton.1 hu]; rfl)
def bs (l : List UInt8) : ByteArray := ⟨l.toArray⟩
theorem bs_size (a : List UInt8) : (bs a).size = a.length := by simp [bs, ByteArray.size]
def raw : Rep {v : Value // v.oneCell' = true} := flat 1 (fun x => [x.1]) (fun _ => rfl) (fun x u hu => by rw [List.mem_singleton.1 hu]; exact x.2)
def slice {α : Type} (d : Rep α) : Rep (List α) where
  sz := 1
  K := fun w S xs cs => ∃ A c, cs = [.slice A xs.length c] ∧ xs.length ≤ c ∧ Row d w S A xs
  len := by rintro w S x cs ⟨A, c, rfl, _⟩; rfl
  one := by rintro w S x cs ⟨A, c, rfl, _⟩ u hu; rw [List.mem_singleton.1 hu]; rfl
  mono := by rintro w S S' x cs hS ⟨A, c, rfl, hl, h⟩; exact ⟨A, c, rfl, hl, h.mono hS⟩
  move := by rintro w w' S x cs hm ⟨A, c, rfl, hl, h⟩; exact ⟨A, c, rfl, hl, h.move hm⟩
  bound := by rintro w S x cs ⟨A, c, rfl, hl, h⟩; exact ⟨A, c, rfl, hl, h.bound⟩
inductive Leaf : Type 1
  | val (v : Value)
  | row {β : Type} (d : Rep β) (xs : List β)
def Leaf.K (w : World) (S : Nat → Prop) : Leaf → Value → Prop
  | .val v, c => c = v
  | .row d xs, c => ∃ A n, c = .slice A xs.length n ∧ xs.length ≤ n ∧ Row d w S A xs
def Leaf.ok : Leaf → Prop
  | .val v => v.oneCell' = true
  | .row _ _ => True
def KL (w : World) (S : Nat → Prop) : List Leaf → List Value → Prop
  | [], cs => cs = []
  | l :: ls, cs => ∃ c r, cs = c :: r ∧ l.K w S c ∧ KL w S ls r
theorem Leaf.K_one {w : World} {S : Nat → Prop} : ∀ {l : Leaf} {c : Value}, l.ok → l.K w S c → c.oneCell' = true
  | .val v, c, h, hk => by rw [show c = v from hk]; exact h
  | .row d xs, c, _, hk => by obtain ⟨A, n, rfl, _⟩ := hk; rfl
theorem Leaf.K_mono {w : World} {S S' : Nat → Prop} (hS : ∀ k, S k → S' k) : ∀ {l : Leaf} {c : Value}, l.K w S c → l.K w S' c
  | .val v, c, hk => hk
  | .row d xs, c, hk => by obtain ⟨A, n, e, hl, h⟩ := hk; exact ⟨A, n, e, hl, h.mono hS⟩
theorem Leaf.K_move {w w' : World} {S : Nat → Prop} (hm : ∀ k, S k → w'.heap[k]? = w.heap[k]?) : ∀ {l : Leaf} {c : Value}, l.K w S c → l.K w' S c
  | .val v, c, hk => hk
  | .row d xs, c, hk => by obtain ⟨A, n, e, hl, h⟩ := hk; exact ⟨A, n, e, hl, h.move hm⟩
theorem Leaf.K_bound {w : World} {S : Nat → Prop} : ∀ {l : Leaf} {c : Value}, l.K w S c → l.K w (fun k => S k ∧ k < w.heap.size) c
  | .val v, c, hk => hk
  | .row d xs, c, hk => by obtain ⟨A, n, e, hl, h⟩ := hk; exact ⟨A, n, e, hl, h.bound⟩
theorem KL_len {w : World} {S : Nat → Prop} : ∀ {ls : List Leaf} {cs : List Value}, KL w S ls cs → cs.length = ls.length
  | [], cs, h => by rw [show cs = [] from h]; rfl
  | l :: ls, cs, h => by obtain ⟨c, r, rfl, _, hr⟩ := h; simp [KL_len hr]
theorem KL_one {w : World} {S : Nat → Prop} : ∀ {ls : List Leaf} {cs : List Value}, (∀ l ∈ ls, l.ok) → KL w S ls cs → ∀ u ∈ cs, u.oneCell' = true
  | [], cs, _, h, u, hu => by rw [show cs = [] from h] at hu; cases hu
  | l :: ls, cs, ho, h, u, hu => by
    obtain ⟨c, r, rfl, hc, hr⟩ := h
    rcases List.mem_cons.1 hu with rfl | hu
    · exact Leaf.K_one (ho l List.mem_cons_self) hc
    · exact KL_one (fun l hl => ho l (List.mem_cons_of_mem _ hl)) hr u hu
theorem KL_imp {w w' : World} {S S' : Nat → Prop} (f : ∀ {l : Leaf} {c}, l.K w S c → l.K w' S' c) : ∀ {ls : List Leaf} {cs : List Value}, KL w S ls cs → KL w' S' ls cs
  | [], cs, h => h
  | l :: ls, cs, h => by obtain ⟨c, r, e, hc, hr⟩ := h; exact ⟨c, r, e, f hc, KL_imp f hr⟩
def strct {α : Type} (sz : Nat) (fs : α → List Leaf) (hl : ∀ x, (fs x).length = sz) (ho : ∀ x, ∀ l ∈ fs x, l.ok) : Rep α where
  sz := sz
  K := fun w S x cs => KL w S (fs x) cs
  len := fun h => by rw [KL_len h]; exact hl _
  one := fun h => KL_one (ho _) h
  mono := fun hS h => KL_imp (fun hk => Leaf.K_mono hS hk) h
  move := fun hm h => KL_imp (fun hk => Leaf.K_move hm hk) h
  bound := fun h => KL_imp (fun hk => Leaf.K_bound hk) h
section
variable {α : Type} {d : Rep α} {w : World} {S : Nat → Prop} {A : Option Addr} {xs : List α}
end
def Reps {α : Type} (R : α → List Value → Prop) (size : Nat) (ps : List α) (cs : List Value) : Prop :=
  cs.length = ps.length * size ∧ ∀ (j : Nat) p, ps[j]? = some p → R p ((cs.drop (j * size)).take size)
theorem Reps.none {α : Type} (R : α → List Value → Prop) (size : Nat) : Reps R size [] [] := ⟨by simp, fun j p h => by simp at h⟩
theorem Reps.imp {α : Type} {R R' : α → List Value → Prop} {size : Nat} {ps : List α} {cs : List Value} (f : ∀ p c, R p c → R' p c) (h : Reps R size ps cs) : Reps R' size ps cs := ⟨h.1, fun j p hp => f _ _ (h.2 j p hp)⟩
theorem Reps.app {α : Type} {R : α → List Value → Prop} {size : Nat} {ps qs : List α} {cs ds : List Value} (h : Reps R size ps cs) (h2 : Reps R size qs ds) : Reps R size (ps ++ qs) (cs ++ ds) := by
  refine ⟨by rw [List.length_append, h.1, h2.1, List.length_append, Nat.add_mul], fun j q hq => ?_⟩
  rcases Nat.lt_or_ge j ps.length with hj | hj
  · rw [List.getElem?_append_left hj] at hq
    have h3 := h.2 j q hq
    have h4 : j * size + size ≤ cs.length := by rw [h.1]; have := Nat.mul_le_mul_right size (show j + 1 ≤ ps.length by omega); rw [Nat.add_mul, Nat.one_mul] at this; omega
    rw [List.drop_append_of_le_length (by omega), List.take_append_of_le_length (by rw [List.length_drop]; omega)]
    exact h3
  · rw [List.getElem?_append_right hj] at hq
    have h3 := h2.2 _ q hq
    have h4 : cs.length ≤ j * size := by rw [h.1]; exact Nat.mul_le_mul_right _ hj
    rw [List.drop_append, List.drop_eq_nil_of_le h4, List.nil_append, show j * size - cs.length = (j - ps.length) * size by rw [h.1, Nat.sub_mul]]
    exact h3
theorem Reps.single {α : Type} {R : α → List Value → Prop} {size : Nat} {p : α} {c : List Value} (hp : R p c) (hc : c.length = size) : Reps R size [p] c := by
  refine ⟨by simp [hc], fun j q hq => ?_⟩
  cases j with
  | zero => simp at hq; subst hq; rw [Nat.zero_mul, List.drop_zero, List.take_of_length_le (by omega)]; exact hp
  | succ j => simp at hq
theorem Reps.cells {α : Type} {R : α → List Value → Prop} {size : Nat} {ps : List α} {cs : List Value} (h : Reps R size ps cs) {i j : Nat} {p : α} (hp : ps[i]? = some p) (hj : j < size) : cs[i * size + j]? = ((cs.drop (i * size)).take size)[j]? := by
  rw [List.getElem?_take, if_pos hj, List.getElem?_drop]
theorem Reps.set {α : Type} {R : α → List Value → Prop} {size : Nat} {ps : List α} {cs : List Value} (h : Reps R size ps cs) {i j : Nat} {p : α} {u : Value} (hj : j < size) (hi : i < ps.length) (hR : R p (((cs.drop (i * size)).take size).set j u)) : Reps R size (ps.set i p) (cs.set (i * size + j) u) := by
  refine ⟨by rw [List.length_set, List.length_set]; exact h.1, fun k q hq => ?_⟩
  by_cases hk : k = i
  · subst hk
    rw [List.getElem?_set_self hi] at hq
    injection hq with hq
    subst hq
    rw [show ((cs.set (k * size + j) u).drop (k * size)).take size = ((cs.drop (k * size)).take size).set j u by
      rw [List.drop_set, if_neg (by omega), show k * size + j - k * size = j by omega, List.take_set]]
    exact hR
  · rw [List.getElem?_set_ne (by omega)] at hq
    have h3 := h.2 k q hq
    have : ((cs.set (i * size + j) u).drop (k * size)).take size = (cs.drop (k * size)).take size := by
      rw [List.drop_set]
      split
      · rfl
      · rename_i hlt
        rw [List.take_set]
        rw [List.set_eq_of_length_le]
        rw [List.length_take]
        have : (k + 1) * size ≤ i * size := by
          apply Nat.mul_le_mul_right
          rcases Nat.lt_or_gt_of_ne hk with h5 | h5
          · omega
          · exfalso
            have := Nat.mul_le_mul_right size (show i + 1 ≤ k by omega)
            rw [Nat.add_mul, Nat.one_mul] at this
            omega
        rw [Nat.add_mul, Nat.one_mul] at this
        omega
    rw [this]
    exact h3
def Own {α : Type} (d : Rep α) (e : Nat) (w : World) (F S : Nat → Prop) (v : Value) (xs : List α) : Prop :=
  (∀ k, v.ownBlock = some k → S k) ∧ ∃ cells, w.ownsRow 0 e d.sz v xs.length cells ∧ Reps (d.K w (fun k => F k ∨ (S k ∧ some k ≠ v.ownBlock))) d.sz xs cells
theorem own_move {w w1 : World} {base : Nat} {e : TypeId} {size n : Nat} {v : Value} {xs : List Value} (h : w.ownsRow base e size v n xs) (hm : ∀ k, v.ownBlock = some k → w1.heap[k]? = w.heap[k]?) : w1.ownsRow base e size v n xs := by
  obtain ⟨h1, h2⟩ := h
  refine ⟨h1, ?_⟩
  rcases h2 with h2 | ⟨g, cap, cur, rfl, hg, hh, r⟩
  · exact .inl h2
  · exact .inr ⟨g, cap, cur, rfl, hg, (hm g (by simp [Value.ownBlock])).trans hh, r⟩
theorem own_lt {w : World} {base : Nat} {e : TypeId} {size n : Nat} {v : Value} {xs : List Value} (h : w.ownsRow base e size v n xs) (k : Nat) (hk : v.ownBlock = some k) : k < w.heap.size := (h.lt k hk).2
section
variable {α : Type} {d : Rep α} {e : Nat} {w w' : World} {F F' S S' : Nat → Prop} {v : Value} {xs : List α}
theorem Own.nil : Own d e w F S (.slice none 0 0) [] := ⟨fun k hk => by simp [Value.ownBlock] at hk, [], World.ownsRow_nil _ _ _ _, Reps.none _ _⟩
theorem Own.mono (hF : ∀ k, F k → F' k ∨ (S' k ∧ some k ≠ v.ownBlock)) (hS : ∀ k, S k → S' k) (h : Own d e w F S v xs) : Own d e w F' S' v xs := by
  obtain ⟨h1, cells, ho, hr⟩ := h
  exact ⟨fun k hk => hS k (h1 k hk), cells, ho, hr.imp fun p c hp => d.mono (fun k hk => hk.elim (fun h => hF k h) (fun h => .inr ⟨hS k h.1, h.2⟩)) hp⟩
theorem Own.move (hm : ∀ k, F k ∨ S k → w'.heap[k]? = w.heap[k]?) (h : Own d e w F S v xs) : Own d e w' F S v xs := by
  obtain ⟨h1, cells, ho, hr⟩ := h
  exact ⟨h1, cells, own_move ho (fun k hk => hm k (.inr (h1 k hk))), hr.imp fun p c hp => d.move (fun k hk => hm k (hk.elim .inl (fun h => .inr h.1))) hp⟩
theorem Own.bound (h : Own d e w F S v xs) : Own d e w (fun k => F k ∧ k < w.heap.size) (fun k => S k ∧ k < w.heap.size) v xs := by
  obtain ⟨h1, cells, ho, hr⟩ := h
  exact ⟨fun k hk => ⟨h1 k hk, own_lt ho k hk⟩, cells, ho, hr.imp fun p c hp => d.mono (fun k hk => hk.1.elim (fun h => .inl ⟨h, hk.2⟩) (fun h => .inr ⟨⟨h.1, hk.2⟩, h.2⟩)) (d.bound hp)⟩
theorem Own.len (h : Own d e w F S v xs) (hd : 0 < d.sz) : xs.length ≤ maxLen := by
  obtain ⟨h1, cells, ho, hr⟩ := h
  rcases ho.2 with ⟨_, h0⟩ | ⟨g, cap, cur, rfl, _, hh, hn, hm, hs, ht⟩
  · omega
  · omega
theorem Own.row (hd : 0 < d.sz) (h : Own d e w F S v xs) : ∃ A c, v = .slice A xs.length c ∧ xs.length ≤ c ∧ Row d w (fun k => F k ∨ S k) A xs := by
  have hlen := h.len hd
  obtain ⟨h1, cells, ho, hr⟩ := h
  rcases ho.2 with ⟨rfl, h0⟩ | ⟨g, cap, cur, rfl, _, hh, hn, hm, hs, ht⟩
  · have : xs = [] := List.eq_nil_of_length_eq_zero h0
    subst this
    exact ⟨none, 0, rfl, Nat.le_refl _, Row.nil⟩
  · refine ⟨_, cap, rfl, hn, hlen, fun hp => ⟨_, rfl, .inr (h1 g rfl), own_lt ho g rfl, fun i x hx => ?_⟩⟩
    have hl : i < xs.length := by
      rcases Nat.lt_or_ge i xs.length with h1 | h1
      · exact h1
      · rw [List.getElem?_eq_none h1] at hx; cases hx
    have hK := hr.2 i x hx
    refine ⟨_, d.mono (fun k hk => hk.elim .inl fun h => .inr h.1) hK, fun j u hu => ?_⟩
    have hj : j < d.sz := by
      have h3 := d.len hK
      rcases Nat.lt_or_ge j d.sz with h4 | h4
      · exact h4
      · rw [List.getElem?_eq_none (by omega)] at hu; cases hu
    rw [← hr.cells hx hj, ← ht] at hu
    rw [add_plain]
    simp only [World.cell?, hh]
    rw [List.getElem?_take] at hu
    split at hu
    · simpa using hu
    · cases hu
theorem Own.cell {g c n : Nat} (h : Own d e w F S (.slice (some ⟨g, 0, none⟩) n c) xs) {i j : Nat} {x : α} (hx : xs[i]? = some x) (hj : j < d.sz) :
    ∃ cs, d.K w (fun k => F k ∨ S k) x cs ∧ (∀ (j : Nat) u, cs[j]? = some u → w.cell? ⟨g, i * d.sz + j, none⟩ = some u) ∧ w.frozen? ⟨g, i * d.sz + j, none⟩ = false := by
  have hd : 0 < d.sz := by omega
  obtain ⟨A, c', e1, _, hrow⟩ := h.row hd
  obtain ⟨ad, cs, e2, _, hK, hc⟩ := hrow.at_ hx
  injection e1 with e1
  rw [← e1] at e2
  injection e2 with e2
  subst e2
  refine ⟨cs, hK, fun j u hu => by have := hc j u hu; rwa [add_plain] at this, ?_⟩
  obtain ⟨h1, cells, ho, hr⟩ := h
  rcases ho.2 with ⟨h0, _⟩ | ⟨g', cap, cur, h0, _, hh, _⟩
  · cases h0
  · injection h0 with h0; injection h0 with h0; injection h0 with h0; subst h0
    simp [World.frozen?, hh]
theorem Own.set {g c n : Nat} (h : Own d e w F S (.slice (some ⟨g, 0, none⟩) n c) xs) (hFS : ∀ k, F k → ¬ S k) {i j : Nat} {x x' : α} {u : Value} (hx : xs[i]? = some x) (hj : j < d.sz)
    (hK : ∀ T cs, d.K w T x cs → d.K w T x' (cs.set j u)) :
    Own d e (w.setCell ⟨g, i * d.sz + j, none⟩ u) F S (.slice (some ⟨g, 0, none⟩) n c) (xs.set i x') ∧ w.grownBy (w.setCell ⟨g, i * d.sz + j, none⟩ u) (some g) := by
  have hl : i < xs.length := by
    rcases Nat.lt_or_ge i xs.length with h1 | h1
    · exact h1
    · rw [List.getElem?_eq_none h1] at hx; cases hx
  obtain ⟨h1, cells, ho, hr⟩ := h
  obtain ⟨hn, _⟩ : n = xs.length ∧ True := by
    rcases ho.2 with ⟨h0, _⟩ | ⟨g', cap, cur, h0, _⟩
    · cases h0
    · injection h0 with _ h0 _; exact ⟨h0, trivial⟩
  subst hn
  have hs := ho.stored (g := g) (i * d.sz + j) u
  refine ⟨⟨h1, cells.set (i * d.sz + j) u, ?_, ?_⟩, hs.2⟩
  · rw [List.length_set]; exact hs.1
  · have h2 : Reps (d.K w (fun k => F k ∨ (S k ∧ some k ≠ (Value.slice (some ⟨g, 0, none⟩) xs.length c).ownBlock))) d.sz (xs.set i x') (cells.set (i * d.sz + j) u) :=
      hr.set hj hl (hK _ _ (hr.2 i x hx))
    have hg : S g := h1 g rfl
    exact h2.imp fun p c hp => d.move (fun k hk => Below.heap_setCell w ⟨g, i * d.sz + j, none⟩ u k (by
      rintro rfl
      rcases hk with hk | hk
      · exact hFS _ hk hg
      · exact hk.2 rfl)) hp
end
structure Asr where
  P : World → (Nat → Prop) → (Nat → Prop) → Prop
  mono : ∀ {w : World} {F F' S S' : Nat → Prop}, (∀ k, F k → F' k) → (∀ k, S k → S' k) → P w F S → P w F' S'
  move : ∀ {w w' : World} {F S : Nat → Prop}, (∀ k, F k ∨ S k → w'.heap[k]? = w.heap[k]?) → P w F S → P w' F S
  bound : ∀ {w : World} {F S : Nat → Prop}, P w F S → P w (fun k => F k ∧ k < w.heap.size) (fun k => S k ∧ k < w.heap.size)
  join : ∀ {w : World} {F S : Nat → Prop}, (∀ k, F k → ¬ S k) → P w F S → P w (fun _ => False) (fun k => F k ∨ S k)
theorem Asr.step (a : Asr) {w w' : World} {F S : Nat → Prop} (hm : ∀ k, F k ∨ S k → k < w.heap.size → w'.heap[k]? = w.heap[k]?) (h : a.P w F S) : a.P w' F S :=
  a.mono (fun _ hk => hk.1) (fun _ hk => hk.1) (a.move (fun k hk => hk.elim (fun h => hm k (.inl h.1) h.2) (fun h => hm k (.inr h.1) h.2)) (a.bound h))
def own {α : Type} (d : Rep α) (e : Nat) (v : Value) (xs : List α) : Asr where
  P := fun w F S => Own d e w F S v xs
  mono := fun hF hS h => h.mono (fun k hk => .inl (hF k hk)) hS
  move := fun hm h => h.move hm
  bound := fun h => h.bound
  join := fun hd h => h.mono (fun k hk => .inr ⟨.inl hk, fun e => hd k hk (h.1 k e.symm)⟩) (fun k hk => .inr hk)
def row {α : Type} (d : Rep α) (A : Option Addr) (xs : List α) : Asr where
  P := fun w F S => Row d w (fun k => F k ∨ S k) A xs
  mono := fun hF hS h => h.mono fun k hk => hk.elim (fun h => .inl (hF k h)) (fun h => .inr (hS k h))
  move := fun hm h => h.move hm
  bound := fun h => h.bound.mono fun k hk => hk.1.elim (fun h => .inl ⟨h, hk.2⟩) (fun h => .inr ⟨h, hk.2⟩)
  join := fun _ h => h.mono fun k hk => .inr hk
def cells {α : Type} (d : Rep α) (cs : List Value) (x : α) : Asr where
  P := fun w F S => d.K w (fun k => F k ∨ S k) x cs
  mono := fun hF hS h => d.mono (fun k hk => hk.elim (fun h => .inl (hF k h)) (fun h => .inr (hS k h))) h
  move := fun hm h => d.move hm h
  bound := fun h => d.mono (fun k hk => hk.1.elim (fun h => .inl ⟨h, hk.2⟩) (fun h => .inr ⟨h, hk.2⟩)) (d.bound h)
  join := fun _ h => d.mono (fun k hk => .inr hk) h
def box (g t : Nat) (cs : List Value) : Asr where
  P := fun w _ S => S g ∧ w.heap[g]? = some (.cells cs.toArray t (0, 0))
  mono := fun _ hS h => ⟨hS _ h.1, h.2⟩
  move := fun hm h => ⟨h.1, (hm _ (.inr h.1)).trans h.2⟩
  bound := fun h => ⟨⟨h.1, by
    rcases Nat.lt_or_ge g _ with h1 | h1
    · exact h1
    · rw [Array.getElem?_eq_none h1] at h; cases h.2⟩, h.2⟩
  join := fun _ h => ⟨.inr h.1, h.2⟩
def Star : List Asr → World → (Nat → Prop) → (Nat → Prop) → Prop
  | [], _, _, _ => True
  | a :: l, w, F, S => ∃ S1 S2 : Nat → Prop, (∀ k, S1 k → S k) ∧ (∀ k, S2 k → S k) ∧ (∀ k, S1 k → ¬ S2 k) ∧ a.P w F S1 ∧ Star l w F S2
theorem Star.mono {w : World} {F F' : Nat → Prop} : ∀ {l : List Asr} {S S' : Nat → Prop}, (∀ k, F k → F' k) → (∀ k, S k → S' k) → Star l w F S → Star l w F' S'
  | [], _, _, _, _, _ => trivial
  | a :: l, S, S', hF, hS, ⟨S1, S2, h1, h2, h3, h4, h5⟩ => ⟨S1, S2, fun k h => hS k (h1 k h), fun k h => hS k (h2 k h), h3, a.mono hF (fun _ h => h) h4, Star.mono hF (fun _ h => h) h5⟩
theorem Star.move {w w' : World} {F : Nat → Prop} : ∀ {l : List Asr} {S : Nat → Prop}, (∀ k, F k ∨ S k → w'.heap[k]? = w.heap[k]?) → Star l w F S → Star l w' F S
  | [], _, _, _ => trivial
  | a :: l, S, hm, ⟨S1, S2, h1, h2, h3, h4, h5⟩ => ⟨S1, S2, h1, h2, h3, a.move (fun k hk => hm k (hk.elim .inl fun h => .inr (h1 k h))) h4, Star.move (fun k hk => hm k (hk.elim .inl fun h => .inr (h2 k h))) h5⟩
theorem Star.bound {w : World} {F : Nat → Prop} : ∀ {l : List Asr} {S : Nat → Prop}, Star l w F S → Star l w (fun k => F k ∧ k < w.heap.size) (fun k => S k ∧ k < w.heap.size)
  | [], _, _ => trivial
  | a :: l, S, ⟨S1, S2, h1, h2, h3, h4, h5⟩ => ⟨_, _, fun k h => ⟨h1 k h.1, h.2⟩, fun k h => ⟨h2 k h.1, h.2⟩, fun k h h' => h3 k h.1 h'.1, a.bound h4, Star.bound h5⟩
theorem Star.step {w w' : World} {F : Nat → Prop} {l : List Asr} {S : Nat → Prop} (hm : ∀ k, F k ∨ S k → k < w.heap.size → w'.heap[k]? = w.heap[k]?) (h : Star l w F S) : Star l w' F S :=
  Star.mono (fun _ hk => hk.1) (fun _ hk => hk.1) (Star.move (fun k hk => hk.elim (fun h => hm k (.inl h.1) h.2) (fun h => hm k (.inr h.1) h.2)) (Star.bound h))
theorem Star.perm {w : World} {F : Nat → Prop} {l l' : List Asr} (h : l.Perm l') : ∀ {S : Nat → Prop}, Star l w F S → Star l' w F S := by
  induction h with
  | nil => exact fun h => h
  | cons a _ ih => rintro S ⟨S1, S2, h1, h2, h3, h4, h5⟩; exact ⟨S1, S2, h1, h2, h3, h4, ih h5⟩
  | swap a b l =>
    rintro S ⟨S1, S2, h1, h2, h3, h4, T1, T2, k1, k2, k3, k4, k5⟩
    exact ⟨T1, fun k => S1 k ∨ T2 k, fun k h => h2 k (k1 k h), fun k h => h.elim (h1 k) (fun h => h2 k (k2 k h)), fun k h h' => h'.elim (fun h' => h3 k h' (k1 k h)) (k3 k h), k4, S1, T2, fun k h => .inl h, fun k h => .inr h, fun k h h' => h3 k h (k2 k h'), h4, k5⟩
  | trans _ _ ih1 ih2 => exact fun h => ih2 (ih1 h)
theorem Star.append {w : World} {F : Nat → Prop} {l2 : List Asr} : ∀ {l1 : List Asr} {S1 S2 : Nat → Prop}, (∀ k, S1 k → ¬ S2 k) → Star l1 w F S1 → Star l2 w F S2 → Star (l1 ++ l2) w F (fun k => S1 k ∨ S2 k)
  | [], S1, S2, hd, _, h2 => h2.mono (fun _ h => h) (fun _ h => .inr h)
  | a :: l1, S1, S2, hd, ⟨T1, T2, k1, k2, k3, k4, k5⟩, h2 =>
    ⟨T1, fun k => T2 k ∨ S2 k, fun k h => .inl (k1 k h), fun k h => h.elim (fun h => .inl (k2 k h)) .inr, fun k h h' => h'.elim (k3 k h) (hd k (k1 k h)), k4, Star.append (fun k h => hd k (k2 k h)) k5 h2⟩
theorem Star.item {w : World} {F : Nat → Prop} {a : Asr} : ∀ {l : List Asr} {S : Nat → Prop}, a ∈ l → Star l w F S → ∃ S', (∀ k, S' k → S k) ∧ a.P w F S'
  | b :: l, S, h, ⟨S1, S2, h1, h2, _, h4, h5⟩ => by
    rcases List.mem_cons.1 h with rfl | h
    · exact ⟨S1, h1, h4⟩
    · obtain ⟨S', k1, k2⟩ := Star.item h h5
      exact ⟨S', fun k hk => h2 k (k1 k hk), k2⟩
structure Keep (M : Nat → Prop) (w w' : World) : Prop where
  os : w'.os = w.os
  tape : w'.tape = w.tape
  output : w'.output = w.output
  size : w.heap.size ≤ w'.heap.size
  block : ∀ k, k < w.heap.size → ¬ M k → w'.heap[k]? = w.heap[k]?
section
variable {M M1 : Nat → Prop} {w0 W W1 : World}
theorem Keep.refl (M : Nat → Prop) (w : World) : Keep M w w := ⟨rfl, rfl, rfl, Nat.le_refl _, fun _ _ _ => rfl⟩
theorem Keep.grown (h : Keep M w0 W) {g : Option Nat} (hg : W.grownBy W1 g) (hM : ∀ k, g = some k → M k ∨ w0.heap.size ≤ k) : Keep M w0 W1 :=
  ⟨hg.os.trans h.os, hg.tape.trans h.tape, hg.output.trans h.output, Nat.le_trans h.size hg.size, fun k hk hm => (hg.block k (Nat.lt_of_lt_of_le hk h.size) (fun e => (hM k e.symm).elim hm (fun h => Nat.not_le.2 hk h))).trans (h.block k hk hm)⟩
theorem Keep.trans (h : Keep M w0 W) (h1 : Keep M1 W W1) (hM : ∀ k, M1 k → M k ∨ w0.heap.size ≤ k) : Keep M w0 W1 :=
  ⟨h1.os.trans h.os, h1.tape.trans h.tape, h1.output.trans h.output, Nat.le_trans h.size h1.size, fun k hk hm => (h1.block k (Nat.lt_of_lt_of_le hk h.size) (fun e => (hM k e).elim hm (fun h => Nat.not_le.2 hk h))).trans (h.block k hk hm)⟩
theorem Keep.below (h : Keep (fun _ => False) w0 W) : Below w0.heap.size w0 W := ⟨h.os, h.tape, h.output, h.size, fun k hk => h.block k hk id⟩
end
def MemM (M Z : Nat → Prop) (w0 W : World) (R l : List Asr) : Prop :=
  (Keep M w0 W ∧ ∀ k, Z k → k < w0.heap.size ∧ ¬ M k) ∧ ∃ F S : Nat → Prop, (∀ k, F k → Z k ∨ M k ∨ w0.heap.size ≤ k) ∧ (∀ k, S k → M k ∨ w0.heap.size ≤ k) ∧ (∀ k, F k → ¬ S k) ∧ (∀ k, F k → k < W.heap.size) ∧ (∀ k, S k → k < W.heap.size) ∧ (∀ a ∈ R, a.P W F (fun _ => False)) ∧ Star l W F S
abbrev Mem (w0 W : World) (R l : List Asr) : Prop := MemM (fun _ => False) (fun _ => False) w0 W R l
section
variable {M Z : Nat → Prop} {w0 W W1 : World} {R R1 l l1 : List Asr} {a b c : Asr}
theorem MemM.startM {M Z : Nat → Prop} {w : World} (hZ : ∀ k, Z k → k < w.heap.size ∧ ¬ M k) : MemM M Z w w [] [] := ⟨⟨Keep.refl _ _, hZ⟩, fun _ => False, fun _ => False, fun _ h => h.elim, fun _ h => h.elim, fun _ h => h.elim, fun _ h => h.elim, fun _ h => h.elim, (fun a h => by cases h), trivial⟩
theorem MemM.start (w : World) : Mem w w [] [] := MemM.startM (fun _ h => h.elim)
theorem MemM.keep (H : MemM M Z w0 W R l) : Keep M w0 W := H.1.1
theorem MemM.below (H : Mem w0 W R l) : Below w0.heap.size w0 W := H.1.1.below
theorem MemM.grown (H : MemM M Z w0 W R l) (hg : W.grownBy W1 none) : MemM M Z w0 W1 R l := by
  obtain ⟨hB, F, S, h1, h2, h3, h4, h5, h6, h7⟩ := H
  have hm : ∀ k, k < W.heap.size → W1.heap[k]? = W.heap[k]? := fun k hk => hg.block k hk (by simp)
  exact ⟨⟨hB.1.grown hg (by simp), hB.2⟩, F, S, h1, h2, h3, fun k h => Nat.lt_of_lt_of_le (h4 k h) hg.size, fun k h => Nat.lt_of_lt_of_le (h5 k h) hg.size, fun a ha => a.step (fun k _ hk => hm k hk) (h6 a ha), h7.step (fun k _ hk => hm k hk)⟩
theorem MemM.alloc (H : MemM M Z w0 W R l) (o : Obj) : MemM M Z w0 (W.alloc o) R l := H.grown (World.grownBy_alloc W o none)
theorem MemM.drew (H : MemM M Z w0 W R l) : MemM M Z w0 W.drew R l := H.grown ⟨rfl, rfl, rfl, Nat.le_refl _, fun _ _ _ => rfl⟩
theorem MemM.drewN (H : MemM M Z w0 W R l) (n : Nat) : MemM M Z w0 (W.drewN n) R l := H.grown ⟨rfl, rfl, rfl, Nat.le_refl _, fun _ _ _ => rfl⟩
theorem MemM.perm (H : MemM M Z w0 W R l) (h : l.Perm l1) : MemM M Z w0 W R l1 := by
  obtain ⟨hB, F, S, h1, h2, h3, h4, h5, h6, h7⟩ := H
  exact ⟨hB, F, S, h1, h2, h3, h4, h5, h6, h7.perm h⟩
theorem MemM.pull1 (H : MemM M Z w0 W R (a :: b :: l)) : MemM M Z w0 W R (b :: a :: l) := H.perm (.swap _ _ _)
theorem MemM.pull2 (H : MemM M Z w0 W R (a :: b :: c :: l)) : MemM M Z w0 W R (c :: a :: b :: l) := H.perm (List.Perm.trans (.cons _ (.swap _ _ _)) (.swap _ _ _))
theorem MemM.pull {l2 : List Asr} (H : MemM M Z w0 W R (l1 ++ b :: l2)) : MemM M Z w0 W R (b :: (l1 ++ l2)) := H.perm List.perm_middle
theorem MemM.push {l2 : List Asr} (H : MemM M Z w0 W R (b :: (l1 ++ l2))) : MemM M Z w0 W R (l1 ++ b :: l2) := H.perm List.perm_middle.symm
theorem MemM.drop (H : MemM M Z w0 W R (a :: l)) : MemM M Z w0 W R l := by
  obtain ⟨hB, F, S, h1, h2, h3, h4, h5, h6, S1, S2, k1, k2, k3, k4, k5⟩ := H
  exact ⟨hB, F, S, h1, h2, h3, h4, h5, h6, k5.mono (fun _ h => h) k2⟩
theorem MemM.onlyR (H : MemM M Z w0 W R l) (h : ∀ x ∈ R1, x ∈ R) : MemM M Z w0 W R1 l := by
  obtain ⟨hB, F, S, h1, h2, h3, h4, h5, h6, h7⟩ := H
  exact ⟨hB, F, S, h1, h2, h3, h4, h5, fun x hx => h6 x (h x hx), h7⟩
theorem MemM.noR (H : MemM M Z w0 W R l) : MemM M Z w0 W [] l := H.onlyR (fun _ h => by cases h)
theorem MemM.swapLast (H : MemM M Z w0 W R (a :: b :: (l ++ [c]))) : MemM M Z w0 W R (b :: (l ++ [a])) := by
  have h : MemM M Z w0 W R (c :: (a :: b :: l)) := H.perm (by
    have := (List.perm_append_comm (l₁ := a :: b :: l) (l₂ := [c]))
    exact this)
  exact h.drop.perm (by
    have := (List.perm_append_comm (l₁ := [a]) (l₂ := b :: l))
    exact this)
theorem MemM.freeze (H : MemM M Z w0 W R (a :: l)) (f : ∀ F S : Nat → Prop, (∀ k, F k → ¬ S k) → a.P W F S → b.P W (fun k => F k ∨ S k) (fun _ => False)) : MemM M Z w0 W (b :: R) l := by
  obtain ⟨hB, F, S, h1, h2, h3, h4, h5, h6, S1, S2, k1, k2, k3, k4, k5⟩ := H
  refine ⟨hB, fun k => F k ∨ S1 k, S2, fun k h => h.elim (h1 k) (fun h => .inr (h2 k (k1 k h))), fun k h => h2 k (k2 k h), fun k h h' => h.elim (fun h => h3 k h (k2 k h')) (fun h => k3 k h h'), fun k h => h.elim (h4 k) (fun h => h5 k (k1 k h)), fun k h => h5 k (k2 k h), fun x hx => ?_, k5.mono (fun k h => .inl h) (fun _ h => h)⟩
  rcases List.mem_cons.1 hx with rfl | hx
  · exact f _ _ (fun k hk h => h3 k hk (k1 k h)) k4
  · exact x.mono (fun k h => .inl h) (fun _ h => h) (h6 x hx)
theorem MemM.item (H : MemM M Z w0 W R l) (ha : a ∈ l) : ∃ F S : Nat → Prop, (∀ k, F k → ¬ S k) ∧ (∀ k, F k → k < W.heap.size) ∧ (∀ k, S k → k < W.heap.size) ∧ a.P W F S := by
  obtain ⟨hB, F, S, h1, h2, h3, h4, h5, h6, h7⟩ := H
  obtain ⟨S', k1, k2⟩ := h7.item ha
  exact ⟨F, S', fun k hk h => h3 k hk (k1 k h), h4, fun k h => h5 k (k1 k h), k2⟩
theorem MemM.new (H : MemM M Z w0 W R l) (hg : W.grownBy W1 none) (hb : b.P W1 (fun _ => False) (fun k => W.heap.size ≤ k)) : MemM M Z w0 W1 R (b :: l) := by
  have H1 := H
  obtain ⟨hB, F, S, h1, h2, h3, h4, h5, h6, h7⟩ := H
  obtain ⟨hB1, _⟩ := H1.grown hg
  have hm : ∀ k, k < W.heap.size → W1.heap[k]? = W.heap[k]? := fun k hk => hg.block k hk (by simp)
  refine ⟨hB1, F, fun k => S k ∨ (W.heap.size ≤ k ∧ k < W1.heap.size), h1, fun k h => h.elim (h2 k) (fun h => .inr (Nat.le_trans hB.1.size h.1)), fun k h h' => h'.elim (h3 k h) (fun h' => Nat.not_le.2 (h4 k h) h'.1), fun k h => Nat.lt_of_lt_of_le (h4 k h) hg.size, fun k h => h.elim (fun h => Nat.lt_of_lt_of_le (h5 k h) hg.size) (fun h => h.2), fun a ha => a.step (fun k _ hk => hm k hk) (h6 a ha), ?_⟩
  exact ⟨fun k => W.heap.size ≤ k ∧ k < W1.heap.size, S, fun k h => .inr h, fun k h => .inl h, fun k h h' => Nat.not_le.2 (h5 k h') h.1, b.mono (fun _ h => h.1.elim) (fun _ h => h) (b.bound hb), h7.step (fun k _ hk => hm k hk)⟩
theorem MemM.open1 (H : MemM M Z w0 W R (a :: l)) : ∃ F S : Nat → Prop, a.P W F S ∧ (∀ k, F k → ¬ S k) ∧ (∀ k, F k → k < W.heap.size) ∧ (∀ k, S k → (M k ∨ w0.heap.size ≤ k) ∧ k < W.heap.size) ∧ (∀ x ∈ R, x.P W F (fun _ => False)) ∧
    ∀ (W1 : World) (b : Asr) (g : Option Nat), W.grownBy W1 g → (∀ k, g = some k → S k) → b.P W1 F (fun k => S k ∨ W.heap.size ≤ k) → MemM M Z w0 W1 R (b :: l) := by
  obtain ⟨hB, F, S, h1, h2, h3, h4, h5, h6, S1, S2, k1, k2, k3, k4, k5⟩ := H
  refine ⟨F, S1, k4, fun k h h' => h3 k h (k1 k h'), h4, fun k h => ⟨h2 k (k1 k h), h5 k (k1 k h)⟩, h6, fun W1 b g hg hgS hb => ?_⟩
  have hm : ∀ k, k < W.heap.size → ¬ S1 k → W1.heap[k]? = W.heap[k]? := fun k hk hS => hg.block k hk (fun e => hS (hgS k e.symm))
  refine ⟨⟨hB.1.grown hg (fun k e => h2 k (k1 k (hgS k e))), hB.2⟩, F, fun k => S k ∨ (W.heap.size ≤ k ∧ k < W1.heap.size), h1, fun k h => h.elim (h2 k) (fun h => .inr (Nat.le_trans hB.1.size h.1)), fun k h h' => h'.elim (h3 k h) (fun h' => Nat.not_le.2 (h4 k h) h'.1), fun k h => Nat.lt_of_lt_of_le (h4 k h) hg.size, fun k h => h.elim (fun h => Nat.lt_of_lt_of_le (h5 k h) hg.size) (fun h => h.2), fun x hx => x.step (fun k hF hk => hm k hk (fun hS => hF.elim (fun hF => h3 k hF (k1 k hS)) id)) (h6 x hx), ?_⟩
  refine ⟨fun k => (S1 k ∨ W.heap.size ≤ k) ∧ k < W1.heap.size, S2, fun k h => h.1.elim (fun h => .inl (k1 k h)) (fun h' => .inr ⟨h', h.2⟩), fun k h => .inl (k2 k h), fun k h h' => h.1.elim (fun h => k3 k h h') (fun h => Nat.not_le.2 (h5 k (k2 k h')) h), b.mono (fun _ h => h.1) (fun _ h => h) (b.bound hb), k5.step (fun k hF hk => hm k hk (fun hS => hF.elim (fun hF => h3 k hF (k1 k hS)) (fun h => k3 k hS h)))⟩
theorem MemM.call (H : MemM M Z w0 W R l) (h : Mem W W1 R1 l1) : MemM M Z w0 W1 (R1 ++ R) (l1 ++ l) := by
  obtain ⟨hB, F, S, h1, h2, h3, h4, h5, h6, h7⟩ := H
  obtain ⟨hB', F', S', h1', h2', h3', h4', h5', h6', h7'⟩ := h
  have g1 : ∀ k, F' k → W.heap.size ≤ k := fun k h => (h1' k h).elim False.elim (fun h => h.elim False.elim id)
  have g2 : ∀ k, S' k → W.heap.size ≤ k := fun k h => (h2' k h).elim False.elim id
  have hm : ∀ k, k < W.heap.size → W1.heap[k]? = W.heap[k]? := fun k hk => hB'.1.block k hk id
  refine ⟨⟨hB.1.trans hB'.1 (fun k h => h.elim), hB.2⟩, fun k => F' k ∨ F k, fun k => S' k ∨ S k, fun k h => h.elim (fun h => .inr (.inr (Nat.le_trans hB.1.size (g1 k h)))) (h1 k), fun k h => h.elim (fun h => .inr (Nat.le_trans hB.1.size (g2 k h))) (h2 k), fun k h h' => h.elim (fun h => h'.elim (h3' k h) (fun h' => Nat.not_le.2 (h5 k h') (g1 k h))) (fun h => h'.elim (fun h' => Nat.not_le.2 (h4 k h) (g2 k h')) (h3 k h)), fun k h => h.elim (h4' k) (fun h => Nat.lt_of_lt_of_le (h4 k h) hB'.1.size), fun k h => h.elim (h5' k) (fun h => Nat.lt_of_lt_of_le (h5 k h) hB'.1.size), fun x hx => ?_, ?_⟩
  · rcases List.mem_append.1 hx with hx | hx
    · exact x.mono (fun k h => .inl h) (fun _ h => h) (h6' x hx)
    · exact x.mono (fun k h => .inr h) (fun _ h => h) (x.step (fun k _ hk => hm k hk) (h6 x hx))
  · exact Star.append (fun k h h' => Nat.not_le.2 (h5 k h') (g2 k h)) (h7'.mono (fun k h => .inl h) (fun _ h => h)) ((h7.step (fun k _ hk => hm k hk)).mono (fun k h => .inr h) (fun _ h => h))
end
section
variable {α : Type} {d : Rep α} {e : Nat} {M Z : Nat → Prop} {w0 W : World} {R l : List Asr} {v : Value} {xs : List α} {A : Option Addr}
theorem MemM.arg (H : Mem w0 W R l) (h : Row d w0 (· < w0.heap.size) A xs) : Row d W (· < W.heap.size) A xs :=
  (h.move fun k hk => H.keep.block k hk id).mono fun k hk => Nat.lt_of_lt_of_le hk H.keep.size
theorem MemM.rd (H : MemM M Z w0 W R l) (h : own d e v xs ∈ l) (hd : 0 < d.sz := by decide) : ∃ A c, v = .slice A xs.length c ∧ xs.length ≤ c ∧ Row d W (· < W.heap.size) A xs := by
  obtain ⟨F, S, _, h1, h2, h3⟩ := H.item h
  obtain ⟨A, c, e1, h4, h5⟩ := Own.row hd h3
  exact ⟨A, c, e1, h4, h5.mono fun k hk => hk.elim (h1 k) (h2 k)⟩
theorem MemM.rdx {n c : Nat} (H : MemM M Z w0 W R l) (h : own d e (.slice A n c) xs ∈ l) (hd : 0 < d.sz := by decide) : n = xs.length ∧ xs.length ≤ c ∧ Row d W (· < W.heap.size) A xs := by
  obtain ⟨A', c', e1, h1, h2⟩ := H.rd h hd
  injection e1 with e1 e2 e3
  subst e1; subst e2; subst e3
  exact ⟨rfl, h1, h2⟩
theorem row_of_P {F : Nat → Prop} (h : (row d A xs).P W F (fun _ => False)) : Row d W F A xs := by
  have h3 : Row d W (fun k => F k ∨ False) A xs := h
  exact h3.mono fun k hk => hk.elim id False.elim
theorem slK {c : Nat} (hc : xs.length ≤ c) (h : row d A xs ∈ R) : ∀ F : Nat → Prop, (∀ x ∈ R, x.P W F (fun _ => False)) → (slice d).K W F xs [.slice A xs.length c] :=
  fun F hF => ⟨A, c, rfl, hc, row_of_P (hF _ h)⟩
theorem MemM.boxcell {g t : Nat} {cs : List Value} (H : MemM M Z w0 W R l) (h : box g t cs ∈ l) (j : Nat) (u : Value) (hj : cs[j]? = some u) : W.cell? ⟨g, j, none⟩ = some u ∧ W.frozen? ⟨g, j, none⟩ = false := by
  obtain ⟨F, S, _, _, _, _, h2⟩ := H.item h
  simp [World.cell?, World.frozen?, h2]
  simpa using hj
theorem MemM.still (H : MemM M Z w0 W R (own d e v xs :: l)) (hd : 0 < d.sz := by decide) : ∃ A c, v = .slice A xs.length c ∧ xs.length ≤ c ∧ MemM M Z w0 W (row d A xs :: R) l := by
  obtain ⟨A, c, e1, h4, _⟩ := H.rd (.head _) hd
  refine ⟨A, c, e1, h4, H.freeze fun F S _ h => ?_⟩
  obtain ⟨A', c', e2, _, h5⟩ := Own.row hd h
  rw [e1] at e2
  injection e2 with e2
  subst e2
  have h6 : Row d W (fun k => (F k ∨ S k) ∨ False) A xs := h5.mono fun k hk => Or.inl hk
  exact h6
theorem MemM.cell (H : MemM M Z w0 W R l) {g n c : Nat} (h : own d e (.slice (some ⟨g, 0, none⟩) n c) xs ∈ l) {i j : Nat} {x : α} (hx : xs[i]? = some x) (hj : j < d.sz := by decide) :
    ∃ cs, d.K W (· < W.heap.size) x cs ∧ (∀ (j : Nat) u, cs[j]? = some u → W.cell? ⟨g, i * d.sz + j, none⟩ = some u) ∧ W.frozen? ⟨g, i * d.sz + j, none⟩ = false := by
  obtain ⟨F, S, _, h1, h2, h3⟩ := H.item h
  obtain ⟨cs, h4, h5, h6⟩ := Own.cell h3 hx hj
  exact ⟨cs, d.mono (fun k hk => hk.elim (h1 k) (h2 k)) h4, h5, h6⟩
theorem MemM.at_ (H : Mem w0 W R l) (h : Row d w0 (· < w0.heap.size) A xs) {i : Nat} {x : α} (hx : xs[i]? = some x) :
    ∃ ad cs, A = some ad ∧ ad.block < w0.heap.size ∧ d.K w0 (· < w0.heap.size) x cs ∧ ∀ (j : Nat) u, cs[j]? = some u → W.cell? (ad.add (i * d.sz + j)) = some u := by
  obtain ⟨ad, cs, e, h1, hK, hc⟩ := h.at_ hx
  exact ⟨ad, cs, e, h1, hK, fun j u hu => (H.below.cell (p := ad.add (i * d.sz + j)) (by rw [add_block]; exact h1)).trans (hc j u hu)⟩
theorem MemM.at1 (H : Mem w0 W R l) (h : Row d w0 (· < w0.heap.size) A xs) {i : Nat} {x : α} (hx : xs[i]? = some x) (hd : d.sz = 1 := by rfl) :
    ∃ ad u, A = some ad ∧ ad.block < w0.heap.size ∧ d.K w0 (· < w0.heap.size) x [u] ∧ W.cell? (ad.add i) = some u := by
  obtain ⟨ad, cs, e, h1, hK, hc⟩ := H.at_ h hx
  have hl := d.len hK
  match cs, hl, hK, hc with
  | [u], _, hK, hc => exact ⟨ad, u, e, h1, hK, by have := hc 0 u rfl; rwa [hd, Nat.mul_one, Nat.add_zero] at this⟩
  | [], hl, _, _ => rw [hd] at hl; cases hl
  | _ :: _ :: _, hl, _, _ => rw [hd] at hl; simp at hl
theorem MemM.int_at {k : IntKind} {ns : List Int} (H : Mem w0 W R l) (h : Row (int k) w0 (· < w0.heap.size) A ns) {i : Nat} {x : Int} (hx : ns[i]? = some x) : ∃ ad, A = some ad ∧ W.cell? (ad.add i) = some (.int k x) := by
  obtain ⟨ad, u, e, _, hK, hc⟩ := H.at1 h hx
  cases hK
  exact ⟨ad, e, hc⟩
theorem MemM.bool_at {ns : List Bool} (H : Mem w0 W R l) (h : Row bool w0 (· < w0.heap.size) A ns) {i : Nat} {x : Bool} (hx : ns[i]? = some x) : ∃ ad, A = some ad ∧ W.cell? (ad.add i) = some (.bool x) := by
  obtain ⟨ad, u, e, _, hK, hc⟩ := H.at1 h hx
  cases hK
  exact ⟨ad, e, hc⟩
theorem MemM.row_at {β : Type} {d : Rep β} {xss : List (List β)} (H : Mem w0 W R l) (h : Row (slice d) w0 (· < w0.heap.size) A xss) {i : Nat} {x : List β} (hx : xss[i]? = some x) : ∃ ad A' c, A = some ad ∧ W.cell? (ad.add i) = some (.slice A' x.length c) ∧ x.length ≤ c ∧ Row d w0 (· < w0.heap.size) A' x := by
  obtain ⟨ad, u, e, _, ⟨A', c, e1, hl, hr⟩, hc⟩ := H.at1 h hx
  cases e1
  exact ⟨ad, A', c, e, hc, hl, hr⟩
theorem MemM.cell1 (H : MemM M Z w0 W R l) {g n c : Nat} (h : own d e (.slice (some ⟨g, 0, none⟩) n c) xs ∈ l) {i : Nat} {x : α} (hx : xs[i]? = some x) (hd : d.sz = 1 := by rfl) : ∃ u, d.K W (· < W.heap.size) x [u] ∧ W.cell? ⟨g, i, none⟩ = some u ∧ W.frozen? ⟨g, i, none⟩ = false := by
  obtain ⟨cs, hK, hc, hf⟩ := H.cell h (j := 0) hx (by omega)
  have hl := d.len hK
  match cs, hl, hK, hc with
  | [u], _, hK, hc => exact ⟨u, hK, by have := hc 0 u rfl; rwa [hd, Nat.mul_one, Nat.add_zero] at this, by rwa [hd, Nat.mul_one, Nat.add_zero] at hf⟩
  | [], hl, _, _ => rw [hd] at hl; cases hl
  | _ :: _ :: _, hl, _, _ => rw [hd] at hl; simp at hl
theorem MemM.bool_cell (H : MemM M Z w0 W R l) {g n c : Nat} {ns : List Bool} (h : own bool e (.slice (some ⟨g, 0, none⟩) n c) ns ∈ l) {i : Nat} {x : Bool} (hx : ns[i]? = some x) : W.cell? ⟨g, i, none⟩ = some (.bool x) ∧ W.frozen? ⟨g, i, none⟩ = false := by
  obtain ⟨u, hK, h1, h2⟩ := H.cell1 h hx
  cases hK
  exact ⟨h1, h2⟩
theorem MemM.setF {g n c : Nat} (H : MemM M Z w0 W R (own d e (.slice (some ⟨g, 0, none⟩) n c) xs :: l)) {i j : Nat} {x x' : α} {u : Value} (hx : xs[i]? = some x) (hj : j < d.sz)
    (hK : ∀ W T cs, d.K W T x cs → d.K W T x' (cs.set j u)) : MemM M Z w0 (W.setCell ⟨g, i * d.sz + j, none⟩ u) R (own d e (.slice (some ⟨g, 0, none⟩) n c) (xs.set i x') :: l) := by
  obtain ⟨F, S, h1, h2, h3, h4, _, h5⟩ := H.open1
  obtain ⟨h6, h7⟩ := Own.set h1 h2 hx hj (hK W)
  exact h5 _ _ _ h7 (fun k hk => by cases hk; exact h1.1 _ rfl) (Own.mono (fun k hk => .inl hk) (fun k hk => .inl hk) h6)
end
theorem MemM.set1 {α : Type} {d : Rep α} {e : Nat} {M Z : Nat → Prop} {w0 W : World} {R l : List Asr} {xs : List α} {g n c : Nat} (H : MemM M Z w0 W R (own d e (.slice (some ⟨g, 0, none⟩) n c) xs :: l)) {i : Nat} (hi : i < xs.length) {x' : α} {u : Value} (hK : ∀ W T, d.K W T x' [u]) (hd : d.sz = 1 := by rfl) :
    MemM M Z w0 (W.setCell ⟨g, i, none⟩ u) R (own d e (.slice (some ⟨g, 0, none⟩) n c) (xs.set i x') :: l) := by
  have h := H.setF (i := i) (j := 0) (x' := x') (u := u) (List.getElem?_eq_getElem hi) (by omega) (fun W T cs hcs => by
    have hl := d.len hcs
    rw [hd] at hl
    match cs, hl with
    | [v], _ => exact hK W T)
  rwa [hd, Nat.mul_one, Nat.add_zero] at h
theorem MemM.setB {e : Nat} {M Z : Nat → Prop} {w0 W : World} {R l : List Asr} {xs : List Bool} {g n c : Nat} (H : MemM M Z w0 W R (own bool e (.slice (some ⟨g, 0, none⟩) n c) xs :: l)) {i : Nat} (hi : i < xs.length) (x : Bool) :
    MemM M Z w0 (W.setCell ⟨g, i, none⟩ (.bool x)) R (own bool e (.slice (some ⟨g, 0, none⟩) n c) (xs.set i x) :: l) := H.set1 hi (fun _ _ => rfl)
theorem setCells_far {g : Nat} : ∀ (vs : List Value) (o : Nat) {w : World} (k : Nat), k ≠ g → (w.setCells g o vs).heap[k]? = w.heap[k]?
  | [], _, _, _, _ => rfl
  | v :: r, o, w, k, hk => by rw [World.setCells, setCells_far r (o + 1) k hk]; exact Below.heap_setCell w ⟨g, o, none⟩ v k hk
theorem setCells_same (g : Nat) : ∀ (vs : List Value) (o : Nat) (w : World), (w.setCells g o vs).os = w.os ∧ (w.setCells g o vs).tape = w.tape ∧ (w.setCells g o vs).output = w.output ∧ (w.setCells g o vs).heap.size = w.heap.size
  | [], _, _ => ⟨rfl, rfl, rfl, rfl⟩
  | v :: r, o, w => by
    obtain ⟨h1, h2, h3, h4⟩ := setCells_same g r (o + 1) (w.setCell ⟨g, o, none⟩ v)
    rw [World.setCells]
    exact ⟨h1, h2, h3, by rw [h4]; simp [World.setCell]⟩
theorem block_set {w : World} {g : Nat} {cur : Array Value} {e : TypeId} (h : w.heap[g]? = some (.cells cur e (0, 0))) (o : Nat) (v : Value) : (w.setCell ⟨g, o, none⟩ v).heap[g]? = some (.cells (cur.setIfInBounds o v) e (0, 0)) := by
  have hl : g < w.heap.size := by
    rcases Nat.lt_or_ge g w.heap.size with h1 | h1
    · exact h1
    · rw [Array.getElem?_eq_none h1] at h; cases h
  simp only [World.setCell]
  rw [Array.getElem?_modify, if_pos rfl, h]
  rfl
theorem setCells_row {g : Nat} {e : TypeId} : ∀ (vs : List Value) (o : Nat) (w : World) (cur : Array Value), w.heap[g]? = some (.cells cur e (0, 0)) → o + vs.length ≤ cur.size →
    ∃ cur', (w.setCells g o vs).heap[g]? = some (.cells cur' e (0, 0)) ∧ cur'.size = cur.size ∧ cur'.toList = cur.toList.take o ++ vs ++ cur.toList.drop (o + vs.length)
  | [], o, w, cur, h, _ => ⟨cur, h, rfl, by simp⟩
  | v :: r, o, w, cur, h, hl => by
    simp only [List.length_cons] at hl
    obtain ⟨cur', h3, h4, h5⟩ := setCells_row r (o + 1) (w.setCell ⟨g, o, none⟩ v) _ (block_set h o v) (by simp; omega)
    refine ⟨cur', h3, by rw [h4]; simp, ?_⟩
    have ho : o < cur.toList.length := by rw [Array.length_toList]; omega
    rw [h5, Array.toList_setIfInBounds, List.take_set, List.drop_set_of_lt (by omega), List.length_cons, show o + 1 + r.length = o + (r.length + 1) by omega]
    congr 1
    rw [List.take_succ_eq_append_getElem ho, List.set_append_right _ _ (by rw [List.length_take]; omega), List.length_take, Nat.min_eq_left (Nat.le_of_lt ho), Nat.sub_self]
    simp
section
variable {P : Program} {ops : Array Oper} {rest : List Oper} {o : Oper} {a : Act} {Q : Exit → Act → World → Prop} {W : World}
theorem gate_dst {N : Tmp} (_hN : o.dst = some N) (h : wpList P ops Q (o :: rest) a W) : wpList P ops Q (o :: rest) a W := h
end
theorem reps_made {α : Type} {R : α → List Value → Prop} {size : Nat} {z : Value} {z0 : α} (hz : z.cells.size = size) (hs : 0 < size) (h : R z0 z.cells.toList) (m : Nat) : Reps R size (List.replicate m z0) (madeCells z.cells (m * size)).toList := by
  refine ⟨by simp [size_madeCells], fun j p hj => ?_⟩
  have hjm : j < m := by
    rcases Nat.lt_or_ge j m with h1 | h1
    · exact h1
    · rw [List.getElem?_eq_none (by simpa using h1)] at hj; cases hj
  obtain rfl : z0 = p := by rw [List.getElem?_replicate, if_pos hjm] at hj; injection hj
  have hle : j * size + size ≤ m * size := by rw [← Nat.succ_mul]; exact Nat.mul_le_mul_right _ hjm
  have e : ((madeCells z.cells (m * size)).toList.drop (j * size)).take size = z.cells.toList := by
    apply List.ext_getElem
    · simp [size_madeCells, hz]; omega
    · intro i h1 h2
      have hi : i < size := by rw [Array.length_toList, hz] at h2; exact h2
      have hmod : (j * size + i) % size = i := by rw [Nat.mul_comm, Nat.mul_add_mod, Nat.mod_eq_of_lt hi]
      rw [List.getElem_take, List.getElem_drop]
      simp [madeCells, hz, hmod, hi]
  rw [e]; exact h
section
variable {P : Program} {ops : Array Oper} {rest : List Oper} {o : Oper} {a : Act} {Q : Exit → Act → World → Prop} {α : Type} {d : Rep α} {e : TypeId} {M Z : Nat → Prop} {w0 W : World} {R l : List Asr} {v : Value} {xs : List α}
theorem own_grew {F S : Nat → Prop} {w1 : World} {v1 : Value} {ys : List α} {cells : List Value} (h1 : ∀ k, v.ownBlock = some k → S k) (hr : Reps (d.K W (fun k => F k ∨ (S k ∧ some k ≠ v.ownBlock))) d.sz ys cells)
    (hF : ∀ k, F k → ¬ S k) (hown : w1.ownsRow 0 e d.sz v1 ys.length cells) (hg : W.grownBy w1 v.ownBlock) (hat : v1.ownBlock = v.ownBlock ∨ ∃ b, v1.ownBlock = some b ∧ W.heap.size ≤ b) :
    Own d e w1 F (fun k => S k ∨ W.heap.size ≤ k) v1 ys := by
  refine ⟨fun k hk => ?_, cells, hown, hr.imp fun p c hp => ?_⟩
  · rcases hat with hat | ⟨b, hb, hle⟩
    · exact .inl (h1 k (hat ▸ hk))
    · rw [hb] at hk; injection hk with hk; subst hk; exact .inr hle
  · have h2 := d.bound hp
    have h3 := d.move (w' := w1) (fun k hk => hg.block k hk.2 (fun e => hk.1.elim (fun h => hF k h (h1 k e.symm)) (fun h => h.2 e))) h2
    refine d.mono (fun k hk => hk.1.elim .inl fun h => .inr ⟨.inl h.1, ?_⟩) h3
    rcases hat with hat | ⟨b, hb, hle⟩
    · rw [hat]; exact h.2
    · rw [hb]; intro he; injection he with he; have := hk.2; omega
theorem wp_append (H : MemM M Z w0 W R (own d e v xs :: l)) (hgd : o.guard = none) (s x : Operand) (t : TypeId) (z : Value) (bytes : Nat)
    (ho : o.op = .call { callee := .builtin .append, args := #[s, x], argTypes := #[t, t] }) (ht : P.underlying t = some (.slice e))
    (hinfo : (P.info? e).map (fun i => (i.zero, i.size, i.bytes)) = some (some z, d.sz, bytes)) (hz : z.cells.size = d.sz) (hs0 : 0 < d.sz) (hb0 : 0 < bytes)
    (p : α) (cs : List Value) (hs : a.eval s = v) (hx : a.eval x = .slice (some ⟨W.heap.size, 0, none⟩) 1 1)
    (hp : ∀ F : Nat → Prop, (∀ x ∈ R, x.P W F (fun _ => False)) → d.K W F p cs) (hl : (xs.length + 1) * bytes ≤ 140737488355328)
    (h : ∀ v1 W1, MemM M Z w0 W1 R (own d e v1 (xs ++ [p]) :: l) → wpList P ops Q rest (a.put o.dst v1) W1) :
    wpList P ops Q (o :: rest) a (W.alloc (.cells cs.toArray e)) := by
  obtain ⟨i0, hi, hzz⟩ := Option.map_eq_some_iff.1 hinfo
  simp only [Prod.mk.injEq] at hzz
  obtain ⟨hz0, hz1, hz2⟩ := hzz
  have hlen : xs.length + 1 ≤ 140737488355328 := Nat.le_trans (Nat.le_mul_of_pos_right _ hb0) hl
  obtain ⟨F, S, ⟨h1, inner, hown, hr⟩, h2, h3, h4, h5, h6⟩ := H.open1
  have hK := hp F h5
  have hcl := d.len hK
  refine wpList_append_own_at (W.alloc (.cells cs.toArray e)) hgd s x t ho 0 e i0 z d.sz bytes ht hi hz0 hz1 hz2 hz hs0 v xs.length inner hs (hown.alloc _) ⟨W.heap.size, 0, none⟩ 1 1 cs hx (by rw [hcl]; simp)
    (by simpa using World.news_of_block (cs := cs.toArray) (t := e) (fr := (0, 0)) (heap_alloc_new W (.cells cs.toArray e))) (d.one hK) (by simp only [maxLen]; omega) hl (Nat.zero_le _) ?_
  intro v1 w1 hown1 hg _ hat
  have hg1 := World.grownBy.trans (World.grownBy_alloc W (.cells cs.toArray e) v.ownBlock) hg
  have hat1 : v1.ownBlock = v.ownBlock ∨ ∃ b, v1.ownBlock = some b ∧ W.heap.size ≤ b := by
    rcases hat with hat | hat
    · exact .inl hat
    · exact .inr ⟨_, hat, by simp⟩
  have hr1 : Reps (d.K W (fun k => F k ∨ (S k ∧ some k ≠ v.ownBlock))) d.sz (xs ++ [p]) (inner ++ cs) := hr.app (Reps.single (d.mono (fun k hk => .inl hk) hK) hcl)
  exact h v1 w1 (h6 w1 _ v.ownBlock hg1 (fun k hk => h1 k hk) (own_grew h1 hr1 h2 (by rw [List.length_append]; exact hown1) hg1 hat1))
theorem wp_make (H : MemM M Z w0 W R l) (d : Rep α) (e : TypeId) (hgd : o.guard = none) (t : TypeId) (x y : Operand) (ho : o.op = .makeSlice t x y) (n : Nat) (hx : a.eval x = .int .i64 n) (hy : a.eval y = .int .i64 n)
    (ht : P.underlying t = some (.slice e)) (z : Value) (bytes : Nat) (hinfo : (P.info? e).map (fun i => (i.zero, i.size, i.bytes)) = some (some z, d.sz, bytes)) (hz : z.cells.size = d.sz) (hs0 : 0 < d.sz) (hb0 : 0 < bytes)
    (z0 : α) (hzero : ∀ S, d.K W S z0 z.cells.toList) (hl : n * bytes ≤ 281474976710656)
    (h : ∀ g W1, MemM M Z w0 W1 R (own d e (.slice (some ⟨g, 0, none⟩) n n) (List.replicate n z0) :: l) → wpList P ops Q rest (a.put o.dst (.slice (some ⟨g, 0, none⟩) n n)) W1) : wpList P ops Q (o :: rest) a W := by
  obtain ⟨i0, hi, hzz⟩ := Option.map_eq_some_iff.1 hinfo
  simp only [Prod.mk.injEq] at hzz
  obtain ⟨hz0, hz1, hz2⟩ := hzz
  have hm : n ≤ 281474976710656 := Nat.le_trans (Nat.le_mul_of_pos_right _ hb0) hl
  refine wpList_make_full W hgd x y t ho 0 e i0 z d.sz ht hi hz0 hz1 .i64 .i64 n n n hx hy rfl rfl (by rw [hz2, Nat.mul_comm]; exact hl) (by simp only [maxLen]; omega) (Nat.zero_le _) ?_
  intro w1 hown hg
  refine h _ _ (H.new hg ⟨fun k hk => ?_, _, by rw [List.length_replicate]; exact hown, ?_⟩)
  · have : W.heap.size = k := by simpa [Value.ownBlock] using hk
    omega
  · exact reps_made hz hs0 (d.step (w := W) (fun k _ hk => hg.block k hk (by simp)) (hzero _)) n
theorem wp_copy {g n c0 : Nat} (H : MemM M Z w0 W R (own d e (.slice (some ⟨g, 0, none⟩) n c0) xs :: l)) (hgd : o.guard = none) (s x : Operand) (t t' : TypeId)
    (ho : o.op = .call { callee := .builtin .copy, args := #[s, x], argTypes := #[t, t'] }) (ht : P.underlying t = some (.slice e)) (hinfo : (P.info? e).map (·.size) = some 1) (hd : d.sz = 1)
    (hflat : ∀ {W W' : World} {S S' : Nat → Prop} {x cs}, d.K W S x cs → d.K W' S' x cs)
    (ys : List α) (A : Option Addr) (c : Nat) (hs : a.eval s = .slice (some ⟨g, 0, none⟩) n c0) (hx : a.eval x = .slice A ys.length c) (hR : Row d W (· < W.heap.size) A ys)
    (h : ∀ W1, MemM M Z w0 W1 R (own d e (.slice (some ⟨g, 0, none⟩) n c0) (ys.take xs.length ++ xs.drop ys.length) :: l) → wpList P ops Q rest (a.put o.dst (.int .i64 ((min ys.length xs.length : Nat) : Int))) W1) : wpList P ops Q (o :: rest) a W := by
  have fin : ∀ w1, (Builtin.copy_ #[t, t'] o.type #[.slice (some ⟨g, 0, none⟩) n c0, .slice A ys.length c]).run P W = .ok (goInt ((min ys.length xs.length : Nat) : Int)) w1 → MemM M Z w0 w1 R (own d e (.slice (some ⟨g, 0, none⟩) n c0) (ys.take xs.length ++ xs.drop ys.length) :: l) → wpList P ops Q (o :: rest) a W := by
    intro w1 hr hm
    refine wpList_plain hgd fun K hK => ?_
    unfold Oper.wp execOp
    simp only [ho, resolve, invoke, builtin, Sem.run_bind, Sem.run_pure, Result.andThen_ok, List.map_toArray, List.map_cons, List.map_nil, hs, hx, hr]
    exact hK _ _ (h w1 hm)
  obtain ⟨F, S, ⟨h1, inner, hown, hr⟩, h2, h3, h4, h5, h6⟩ := H.open1
  have hn : n = xs.length := by
    rcases hown.2 with ⟨h0, _⟩ | ⟨g', cap, cur, h0, _⟩
    · cases h0
    · injection h0
  subst hn
  rcases Nat.eq_zero_or_pos (min ys.length xs.length) with h0 | hp
  · refine fin W ?_ ?_
    · rw [h0]; exact run_copy_none W t t' o.type e (some ⟨g, 0, none⟩) A xs.length c0 ys.length c ht hinfo h0
    · have : ys.take xs.length ++ xs.drop ys.length = xs := by
        rcases Nat.eq_zero_or_pos ys.length with h7 | h7
        · rw [List.eq_nil_of_length_eq_zero h7]; simp
        · have h8 : xs.length = 0 := by omega
          rw [List.eq_nil_of_length_eq_zero h8]; simp
      rw [this]; exact H
  · obtain ⟨ad, rfl, _, _, hc⟩ := hR.2 (by omega)
    rcases hown.2 with ⟨h0, _⟩ | ⟨g', cap, cur, h0, hb, hh, hnc, hcm, hcs, htake⟩
    · cases h0
    injection h0 with h0 _ hcap; injection h0 with h0; injection h0 with h0; subst h0; subst hcap
    rw [hd, Nat.mul_one] at hcs htake
    have hsrc : ∀ m, m ≤ ys.length → ∃ news, Reps (d.K W (fun k => F k ∨ (S k ∧ some k ≠ (Value.slice (some ⟨g, 0, none⟩) xs.length c0).ownBlock))) d.sz (ys.take m) news ∧ ∀ (j : Nat) u, news[j]? = some u → W.cell? (ad.add j) = some u := by
      intro m
      induction m with
      | zero => exact fun _ => ⟨[], Reps.none _ _, by simp⟩
      | succ m ih =>
        intro hm
        obtain ⟨news, k1, k2⟩ := ih (by omega)
        have hy : ys[m]? = some ys[m] := List.getElem?_eq_getElem (by omega)
        obtain ⟨cs, hK, hcc⟩ := hc m _ hy
        refine ⟨news ++ cs, ?_, fun j u hu => ?_⟩
        · rw [List.take_add_one, hy]
          exact k1.app (Reps.single (hflat hK) (d.len hK))
        · have hl2 : news.length = m * d.sz := by rw [k1.1, List.length_take, Nat.min_eq_left (by omega)]
          rcases Nat.lt_or_ge j news.length with hj | hj
          · rw [List.getElem?_append_left hj] at hu; exact k2 j u hu
          · rw [List.getElem?_append_right hj] at hu
            have := hcc _ u hu
            rwa [show m * d.sz + (j - news.length) = j by omega] at this
    obtain ⟨news, k1, k2⟩ := hsrc (min ys.length xs.length) (Nat.min_le_left _ _)
    have hkl : news.length = min ys.length xs.length := by rw [k1.1, hd, Nat.mul_one, List.length_take, Nat.min_eq_left (Nat.min_le_left _ _)]
    have hone : ∀ u ∈ news, u.oneCell' = true := by
      intro u hu
      obtain ⟨q, hq, rfl⟩ := List.mem_iff_getElem.1 hu
      have hql : q < (ys.take (min ys.length xs.length)).length := by rw [List.length_take]; omega
      have h9 := k1.2 q _ (List.getElem?_eq_getElem hql)
      refine d.one h9 _ ?_
      rw [hd, Nat.mul_one, List.mem_iff_getElem?]
      exact ⟨0, by rw [List.getElem?_take, if_pos (by omega), List.getElem?_drop, Nat.add_zero, List.getElem?_eq_getElem hq]⟩
    have hr1 := run_copy_cells (P := P) W t t' o.type e g 0 xs.length c0 ad ys.length c news ht hinfo (by rw [hkl]) k2
      (fun j hj => by simp only [World.cell?, hh]; simp; omega) (fun j _ => by simp [World.frozen?, hh]) hone
    obtain ⟨cur', k3, k4, k5⟩ := setCells_row news 0 W cur hh (by rw [hkl]; omega)
    obtain ⟨s1, s2, s3, s4⟩ := setCells_same g news 0 W
    refine fin _ (by rw [hr1, hkl]) ?_
    have hg : W.grownBy (W.setCells g 0 news) (some g) := ⟨s1, s2, s3, by rw [s4]; exact Nat.le_refl _, fun k _ hk => setCells_far _ _ k (fun he => hk (by rw [he]))⟩
    refine h6 _ _ (some g) hg (fun k hk => by cases hk; exact h1 _ rfl) ?_
    have hlen : (ys.take xs.length ++ xs.drop ys.length).length = xs.length := by rw [List.length_append, List.length_take, List.length_drop]; omega
    refine ⟨fun k hk => .inl (h1 k hk), cur'.toList.take xs.length, ⟨by rw [hlen, hd, List.length_take, Nat.mul_one, show cur'.toList.length = c0 by rw [Array.length_toList, k4, hcs]]; exact Nat.min_eq_left hnc, .inr ⟨g, c0, cur', by rw [hlen], Nat.zero_le _, k3, by rw [hlen]; exact hnc, hcm, by rw [k4, hcs, hd, Nat.mul_one], by rw [hlen, hd, Nat.mul_one]⟩⟩, ?_⟩
    have hm : ∀ k, k < W.heap.size → k ≠ g → (W.setCells g 0 news).heap[k]? = W.heap[k]? := fun k hk hne => hg.block k hk (fun e => hne (by injection e))
    have e1 : cur'.toList.take xs.length = news ++ inner.drop (min ys.length xs.length) := by
      rw [k5, List.take_zero, List.nil_append, hkl, Nat.zero_add, List.take_append, hkl, List.take_of_length_le (by rw [hkl]; omega)]
      congr 1
      rw [← htake, List.drop_take]
    have e2 : ys.take xs.length ++ xs.drop ys.length = ys.take (min ys.length xs.length) ++ xs.drop (min ys.length xs.length) := by
      rcases Nat.le_total ys.length xs.length with h7 | h7
      · rw [Nat.min_eq_left h7, List.take_of_length_le h7, List.take_length]
      · rw [Nat.min_eq_right h7, List.drop_eq_nil_of_le h7, List.drop_length]
    rw [e1, e2]
    have hdrop : Reps (d.K W (fun k => F k ∨ (S k ∧ some k ≠ (Value.slice (some ⟨g, 0, none⟩) xs.length c0).ownBlock))) d.sz (xs.drop (min ys.length xs.length)) (inner.drop (min ys.length xs.length)) := by
      refine ⟨by rw [List.length_drop, hr.1, hd, Nat.mul_one, List.length_drop, Nat.mul_one], fun j p hp => ?_⟩
      rw [List.getElem?_drop] at hp
      have h9 := hr.2 _ p hp
      rw [hd, Nat.mul_one] at h9 ⊢
      rw [List.drop_drop]
      exact h9
    refine (k1.app hdrop).imp fun p q hp => ?_
    refine d.mono (fun k hk => hk.elim .inl fun hk => .inr ⟨.inl hk.1, hk.2⟩) (d.step (fun k hk hlt => hm k hlt ?_) hp)
    rintro rfl
    exact hk.elim (fun hk => h2 _ hk (h1 _ rfl)) (fun hk => hk.2 rfl)
theorem MemM.lit (H : MemM M Z w0 W R l) (d : Rep α) (e : TypeId) (xs : List α) (cs : List Value) (hK : ∀ F : Nat → Prop, (∀ x ∈ R, x.P W F (fun _ => False)) → Reps (d.K W F) d.sz xs cs) (hm : xs.length ≤ maxLen) :
    MemM M Z w0 (W.alloc (.cells cs.toArray e)) R (own d e (.slice (some ⟨W.heap.size, 0, none⟩) xs.length xs.length) xs :: l) := by
  have hg := World.grownBy_alloc W (.cells cs.toArray e) none
  obtain ⟨hB, F, S, h1, h2, h3, h4, h5, h6, h7⟩ := H
  have hm1 : ∀ k, k < W.heap.size → (W.alloc (.cells cs.toArray e)).heap[k]? = W.heap[k]? := fun k hk => hg.block k hk (by simp)
  have hsz : W.heap.size < (W.alloc (.cells cs.toArray e)).heap.size := by simp
  refine ⟨⟨hB.1.grown hg (by simp), hB.2⟩, F, fun k => S k ∨ k = W.heap.size, h1, fun k h => h.elim (h2 k) (fun h => .inr (by have := hB.1.size; omega)), fun k h h' => h'.elim (h3 k h) (fun e => by have := h4 k h; omega), fun k h => Nat.lt_of_lt_of_le (h4 k h) hg.size, fun k h => h.elim (fun h => Nat.lt_of_lt_of_le (h5 k h) hg.size) (fun h => by omega), fun x hx => x.step (fun k _ hk => hm1 k hk) (h6 x hx), fun k => k = W.heap.size, S, fun k h => .inr h, fun k h => .inl h, fun k h h' => by have := h5 k h'; omega, ?_, h7.step (fun k _ hk => hm1 k hk)⟩
  have hR := hK F h6
  have h8 := World.ownsRow_lit (base := 0) (e := e) (size := d.sz) W cs.toArray xs.length (Nat.zero_le _) hm (by simpa using hR.1)
  refine ⟨fun k hk => ?_, cs, by simpa using h8, hR.imp fun p c hp => d.mono (fun k hk => .inl hk) (d.step (fun k _ hk => hm1 k hk) hp)⟩
  have : W.heap.size = k := by simpa [Value.ownBlock] using hk
  omega
theorem wp_event {v1 : Value} {W1 : World} (hgd : o.guard = none) (hrun : (execOp a.eval o).run P W = .ok (.value v1) W1) (h : wpList P ops Q rest (a.put o.dst v1) W1) : wpList P ops Q (o :: rest) a W := by
  refine wpList_plain hgd fun K hK => ?_
  unfold Oper.wp
  rw [hrun]
  exact hK _ _ h
theorem wp_lit (H : MemM M Z w0 W R l) (d : Rep α) (e : TypeId) (xs : List α) (cs : List Value) (hgd : o.guard = none)
    (hrun : (execOp a.eval o).run P W = .ok (.value (.slice (some ⟨W.heap.size, 0, none⟩) xs.length xs.length)) (W.alloc (.cells cs.toArray e)))
    (hK : ∀ F : Nat → Prop, (∀ x ∈ R, x.P W F (fun _ => False)) → Reps (d.K W F) d.sz xs cs) (hm : xs.length ≤ maxLen)
    (h : ∀ g W1, MemM M Z w0 W1 R (own d e (.slice (some ⟨g, 0, none⟩) xs.length xs.length) xs :: l) → wpList P ops Q rest (a.put o.dst (.slice (some ⟨g, 0, none⟩) xs.length xs.length)) W1) : wpList P ops Q (o :: rest) a W :=
  wp_event hgd hrun (h _ _ (H.lit d e xs cs hK hm))
theorem MemM.box (H : MemM M Z w0 W R l) (t : TypeId) (cs : List Value) : MemM M Z w0 (W.alloc (.cells cs.toArray t)) R (box W.heap.size t cs :: l) :=
  H.new (World.grownBy_alloc W _ none) ⟨Nat.le_refl _, heap_alloc_new W _⟩
end
abbrev Cell := {v : Value // v.oneCell' = true}
def nilCell : Cell := ⟨.slice none 0 0, rfl⟩
def slCell (A : Option Addr) (n c : Nat) : Cell := ⟨.slice A n c, rfl⟩
section
variable {α : Type} {d : Rep α} {e e2 : TypeId} {M Z : Nat → Prop} {w0 W : World} {R l : List Asr} {v : Value} {xs : List α}
theorem MemM.nilItem (H : MemM M Z w0 W R l) (d : Rep α) (e : TypeId) : MemM M Z w0 W R (own d e (.slice none 0 0) [] :: l) := by
  obtain ⟨hB, F, S, h1, h2, h3, h4, h5, h6, h7⟩ := H
  exact ⟨hB, F, S, h1, h2, h3, h4, h5, h6, fun _ => False, S, fun _ h => h.elim, fun _ h => h, fun _ h => h.elim, Own.nil, h7⟩
theorem Own.one {F S : Nat → Prop} (h : Own d e W F S v xs) : ∃ A c, v = .slice A xs.length c := by
  obtain ⟨_, cells, ho, _⟩ := h
  rcases ho.2 with ⟨rfl, h0⟩ | ⟨g, cap, cur, rfl, _⟩
  · exact ⟨none, 0, by rw [h0]⟩
  · exact ⟨_, cap, rfl⟩
theorem MemM.one (H : MemM M Z w0 W R l) (h : own d e v xs ∈ l) : ∃ A c, v = .slice A xs.length c := by
  obtain ⟨F, S, _, _, _, h3⟩ := H.item h
  exact Own.one h3
def rowsOf (d : Rep α) (e : TypeId) (vs : List Cell) (xss : List (List α)) : List Asr := List.zipWith (fun v xs => own d e v.1 xs) vs xss
theorem rowsOf_split (d : Rep α) (e : TypeId) {vs : List Cell} {xss : List (List α)} (h : vs.length = xss.length) {k : Nat} {v : Cell} {xs : List α} (hv : vs[k]? = some v) (hx : xss[k]? = some xs) :
    ∃ l1 l2, rowsOf d e vs xss = l1 ++ own d e v.1 xs :: l2 ∧ ∀ v' xs', rowsOf d e (vs.set k v') (xss.set k xs') = l1 ++ own d e v'.1 xs' :: l2 := by
  have hk : k < vs.length := by
    rcases Nat.lt_or_ge k vs.length with h1 | h1
    · exact h1
    · rw [List.getElem?_eq_none h1] at hv; cases hv
  have hk2 : k < xss.length := by omega
  have e1 : vs = vs.take k ++ v :: vs.drop (k + 1) := by
    rw [List.getElem?_eq_getElem hk] at hv; injection hv with hv
    rw [← hv, List.getElem_cons_drop, List.take_append_drop]
  have e2 : xss = xss.take k ++ xs :: xss.drop (k + 1) := by
    rw [List.getElem?_eq_getElem hk2] at hx; injection hx with hx
    rw [← hx, List.getElem_cons_drop, List.take_append_drop]
  have hl1 : (vs.take k).length = k := by rw [List.length_take]; omega
  have hl2 : (xss.take k).length = k := by rw [List.length_take]; omega
  refine ⟨rowsOf d e (vs.take k) (xss.take k), rowsOf d e (vs.drop (k + 1)) (xss.drop (k + 1)), ?_, fun v' xs' => ?_⟩
  · conv => lhs; rw [e1, e2]
    rw [rowsOf, List.zipWith_append (by rw [hl1, hl2])]; rfl
  · conv => lhs; rw [e1, e2]
    rw [List.set_append_right _ _ (by omega), List.set_append_right _ _ (by omega), hl1, hl2, Nat.sub_self, List.set_cons_zero, List.set_cons_zero, rowsOf, List.zipWith_append (by rw [hl1, hl2])]; rfl
theorem MemM.nilRows (H : MemM M Z w0 W R l) (d : Rep α) (e : TypeId) : ∀ n, MemM M Z w0 W R (rowsOf d e (List.replicate n nilCell) (List.replicate n []) ++ l)
  | 0 => H
  | n + 1 => by
    have h := (MemM.nilRows H d e n).nilItem d e
    exact h
theorem Star.nest {w : World} {F : Nat → Prop} : ∀ {vs : List Cell} {xss : List (List α)} {S : Nat → Prop}, vs.length = xss.length → Star (rowsOf d e vs xss ++ l) w F S →
    ∃ S1 S2 : Nat → Prop, (∀ k, S1 k → S k) ∧ (∀ k, S2 k → S k) ∧ (∀ k, S1 k → ¬ S2 k) ∧ (∀ (i : Nat) v xs, vs[i]? = some v → xss[i]? = some xs → Own d e w F S1 v.1 xs) ∧ Star l w F S2
  | [], [], S, _, h => ⟨fun _ => False, S, fun _ h => h.elim, fun _ h => h, fun _ h => h.elim, fun i v xs hv => by simp at hv, h⟩
  | v :: vs, xs :: xss, S, hl, ⟨T1, T2, h1, h2, h3, h4, h5⟩ => by
    obtain ⟨S1, S2, k1, k2, k3, k4, k5⟩ := Star.nest (vs := vs) (xss := xss) (by simpa using hl) h5
    refine ⟨fun k => T1 k ∨ S1 k, S2, fun k h => h.elim (h1 k) (fun h => h2 k (k1 k h)), fun k h => h2 k (k2 k h), fun k h h' => h.elim (fun h => h3 k h (k2 k h')) (fun h => k3 k h h'), fun i v' xs' hv hx => ?_, k5⟩
    cases i with
    | zero =>
      simp at hv hx
      subst hv; subst hx
      exact Own.mono (fun k hk => .inl hk) (fun k hk => .inl hk) h4
    | succ i => exact Own.mono (fun k hk => .inl hk) (fun k hk => .inr hk) (k4 i v' xs' (by simpa using hv) (by simpa using hx))
  | [], _ :: _, _, hl, _ => by simp at hl
  | _ :: _, [], _, hl, _ => by simp at hl
theorem MemM.nest {vs : List Cell} {xss : List (List α)} (hd : 0 < d.sz) (hl : vs.length = xss.length) (H : MemM M Z w0 W R (own raw e2 v vs :: (rowsOf d e vs xss ++ l))) : MemM M Z w0 W R (own (slice d) e2 v xss :: l) := by
  obtain ⟨hB, F, S, h1, h2, h3, h4, h5, h6, S1, S2, k1, k2, k3, ⟨k4, cells, ho, hr⟩, k5⟩ := H
  obtain ⟨T1, T2, j1, j2, j3, j4, j5⟩ := Star.nest hl k5
  refine ⟨hB, F, S, h1, h2, h3, h4, h5, h6, fun k => S1 k ∨ T1 k, T2, fun k h => h.elim (k1 k) (fun h => k2 k (j1 k h)), fun k h => k2 k (j2 k h), fun k h h' => h.elim (fun h => k3 k h (j2 k h')) (fun h => j3 k h h'), ⟨fun k hk => .inl (k4 k hk), cells, by rw [← hl]; exact ho, ?_⟩, j5⟩
  refine ⟨by rw [← hl]; exact hr.1, fun i xs hx => ?_⟩
  have hi : i < vs.length := by
    rcases Nat.lt_or_ge i vs.length with h1 | h1
    · exact h1
    · rw [List.getElem?_eq_none (by omega)] at hx; cases hx
  have hv : vs[i]? = some vs[i] := List.getElem?_eq_getElem hi
  have h9 := hr.2 i _ hv
  obtain ⟨A, c, e1, e2', hrow⟩ := Own.row hd (j4 i _ xs hv hx)
  refine ⟨A, c, ?_, e2', hrow.mono fun k hk => hk.elim .inl fun hk => .inr ⟨.inr hk, fun e3 => ?_⟩⟩
  · rw [← e1]; exact h9
  · exact k3 k (k4 k e3.symm) (j1 k hk)
end
end Go.Proofs.Ytcagkdgpoijkoaa.Mq
