/- Texts of this work, joined: Mq, Bridge, FwP, Fw, Api, OfP, Shelf, Sorted, Box, Below, Mix, Of. -/
import Derived.Below
import Derived.Maps.AppendAt
import Derived.OwnWalk
import Derived.Laws.MakeOwn
import Derived.Laws.OwnMore
import Derived.Deep.OwnRows
import Derived.Deep.AppendLies
import Derived.Tactics
import Derived.Laws.Slices
import Derived.WalkKit
import Derived.KernelRfl
import Derived.RowKit3
import Derived.Deep.LoopGhost
import Derived.Deep.QuietTactic
import Derived.BigQuiet
import Derived.Laws.Rows
import Derived.Laws.IdiomCopy
import Derived.RowKit
import Derived.Test.YtcagkdgpoijkoaaWMore
import Derived.Test.YtcagkdgpoijkoaaProg
import Derived.Shelf.Small.Bits
import Derived.Shelf.Strconv.Itoa0
import Derived.Shelf.Sort.Plain
import Derived.Shelf.Slices.In.SortNone
import Derived.Deep.MidRow
import Derived.Lib.QuietBelow
import Derived.Deep.RegionWith
import Derived.OrdersHeld
import Derived.StillTail
section
namespace Go.Proofs.Ytcagkdgpoijkoaa.Mq
open Go.RowKit
set_option linter.unusedVariables false
theorem hide {p : Prop} (h : p) : Hid p := h
theorem add_plain (g j : Nat) : (⟨g, 0, none⟩ : Addr).add j = ⟨g, j, none⟩ := by unfold Addr.add; split <;> simp_all
theorem add_add (a : Addr) (i j : Nat) : (a.add i).add j = a.add (i + j) := by
  unfold Addr.add
  by_cases h1 : i = 0 <;> by_cases h2 : j = 0 <;> simp [h1, h2, Nat.add_assoc]
theorem add_block (a : Addr) (i : Nat) : (a.add i).block = a.block := by unfold Addr.add; split <;> rfl
theorem add_zero (a : Addr) : a.add 0 = a := rfl
theorem max2_int (k k' : IntKind) (x y : Int) : Builtin.max2 (.int k x) (.int k' y) = pure (.int k (max x y)) := by
  simp only [Builtin.max2, gt_iff_lt]
  rw [show (if x < y then y else x) = max x y by rw [Int.max_def]; split <;> split <;> omega]
theorem min2_int (k k' : IntKind) (x y : Int) : Builtin.min2 (.int k x) (.int k' y) = pure (.int k (min x y)) := by
  simp only [Builtin.min2]
  rw [show (if y < x then y else x) = min x y by rw [Int.min_def]; split <;> split <;> omega]
theorem max_two (ats : Array TypeId) (ty : TypeId) (a b : Value) : Builtin.max_ ats ty #[a, b] = (Builtin.max2 a b >>= fun s => pure s) := by simp only [Builtin.max_, List.foldlM_cons, List.foldlM_nil]
theorem min_two (ats : Array TypeId) (ty : TypeId) (a b : Value) : Builtin.min_ ats ty #[a, b] = (Builtin.min2 a b >>= fun s => pure s) := by simp only [Builtin.min_, List.foldlM_cons, List.foldlM_nil]
theorem min_three (ats : Array TypeId) (ty : TypeId) (a b c : Value) : Builtin.min_ ats ty #[a, b, c] = (Builtin.min2 a b >>= fun s => Builtin.min2 s c >>= fun s => pure s) := by simp only [Builtin.min_, List.foldlM_cons, List.foldlM_nil]
structure Rep (α : Type) where
  sz : Nat
  K : World → (Nat → Prop) → α → List Value → Prop
  len : ∀ {w S x cs}, K w S x cs → cs.length = sz
  one : ∀ {w S x cs}, K w S x cs → ∀ u ∈ cs, u.oneCell' = true
  mono : ∀ {w : World} {S S' : Nat → Prop} {x cs}, (∀ k, S k → S' k) → K w S x cs → K w S' x cs
  move : ∀ {w w' : World} {S x cs}, (∀ k, S k → w'.heap[k]? = w.heap[k]?) → K w S x cs → K w' S x cs
  bound : ∀ {w : World} {S x cs}, K w S x cs → K w (fun k => S k ∧ k < w.heap.size) x cs
theorem Rep.step {α : Type} (d : Rep α) {w w' : World} {S : Nat → Prop} {x : α} {cs : List Value} (hm : ∀ k, S k → k < w.heap.size → w'.heap[k]? = w.heap[k]?) (h : d.K w S x cs) : d.K w' S x cs :=
  d.mono (fun _ hk => hk.1) (d.move (fun k hk => hm k hk.1 hk.2) (d.bound h))
def Row {α : Type} (d : Rep α) (w : World) (S : Nat → Prop) (A : Option Addr) (xs : List α) : Prop :=
  xs.length ≤ maxLen ∧ (0 < xs.length → ∃ ad, A = some ad ∧ S ad.block ∧ ad.block < w.heap.size ∧ ∀ (i : Nat) x, xs[i]? = some x → ∃ cs, d.K w S x cs ∧ ∀ (j : Nat) u, cs[j]? = some u → w.cell? (ad.add (i * d.sz + j)) = some u)
section
variable {α : Type} {d : Rep α} {w w' : World} {S S' : Nat → Prop} {A : Option Addr} {xs : List α}
theorem Row.nil : Row d w S A [] := ⟨by simp, fun h => absurd h (by simp)⟩
theorem Row.len (h : Row d w S A xs) : xs.length ≤ maxLen := h.1
theorem Row.mono (hS : ∀ k, S k → S' k) (h : Row d w S A xs) : Row d w S' A xs := by
  refine ⟨h.1, fun hp => ?_⟩
  obtain ⟨ad, e, h1, h2, h3⟩ := h.2 hp
  exact ⟨ad, e, hS _ h1, h2, fun i x hx => by obtain ⟨cs, hK, hc⟩ := h3 i x hx; exact ⟨cs, d.mono hS hK, hc⟩⟩
theorem lt_of_same {w w' : World} {k : Nat} (h : w'.heap[k]? = w.heap[k]?) (hk : k < w.heap.size) : k < w'.heap.size := by
  rw [Array.getElem?_eq_getElem hk] at h
  rcases Nat.lt_or_ge k w'.heap.size with h1 | h1
  · exact h1
  · rw [Array.getElem?_eq_none h1] at h; cases h
theorem Row.bound (h : Row d w S A xs) : Row d w (fun k => S k ∧ k < w.heap.size) A xs := by
  refine ⟨h.1, fun hp => ?_⟩
  obtain ⟨ad, e, h1, h2, h3⟩ := h.2 hp
  exact ⟨ad, e, ⟨h1, h2⟩, h2, fun i x hx => by obtain ⟨cs, hK, hc⟩ := h3 i x hx; exact ⟨cs, d.bound hK, hc⟩⟩
theorem Row.move (hm : ∀ k, S k → w'.heap[k]? = w.heap[k]?) (h : Row d w S A xs) : Row d w' S A xs := by
  refine ⟨h.1, fun hp => ?_⟩
  obtain ⟨ad, e, h1, h2, h3⟩ := h.2 hp
  refine ⟨ad, e, h1, lt_of_same (hm _ h1) h2, fun i x hx => ?_⟩
  obtain ⟨cs, hK, hc⟩ := h3 i x hx
  exact ⟨cs, d.move hm hK, fun j u hu => (World.cell?_of_block (w := w) (w' := w') (by rw [add_block]; exact hm _ h1)).trans (hc j u hu)⟩
theorem Row.step (hm : ∀ k, S k → k < w.heap.size → w'.heap[k]? = w.heap[k]?) (h : Row d w S A xs) : Row d w' S A xs :=
  Row.mono (fun _ hk => hk.1) (Row.move (fun k hk => hm k hk.1 hk.2) (Row.bound h))
theorem Row.at_ (h : Row d w S A xs) {i : Nat} {x : α} (hx : xs[i]? = some x) : ∃ ad cs, A = some ad ∧ ad.block < w.heap.size ∧ d.K w S x cs ∧ ∀ (j : Nat) u, cs[j]? = some u → w.cell? (ad.add (i * d.sz + j)) = some u := by
  have hl : i < xs.length := by
    rcases Nat.lt_or_ge i xs.length with h1 | h1
    · exact h1
    · rw [List.getElem?_eq_none h1] at hx; cases hx
  obtain ⟨ad, e, h1, h2, h3⟩ := h.2 (by omega)
  obtain ⟨cs, hK, hc⟩ := h3 i x hx
  exact ⟨ad, cs, e, h2, hK, hc⟩
end
def flat {α : Type} (sz : Nat) (enc : α → List Value) (hl : ∀ x, (enc x).length = sz) (h1 : ∀ x, ∀ u ∈ enc x, u.oneCell' = true) : Rep α where
  sz := sz
  K := fun _ _ x cs => cs = enc x
  len := fun h => by rw [h]; exact hl _
  one := fun h u hu => by rw [h] at hu; exact h1 _ u hu
  mono := fun _ h => h
  move := fun _ h => h
  bound := fun h => h
def int (k : IntKind) : Rep Int := flat 1 (fun x => [.int k x]) (fun _ => rfl) (fun x u hu => by rw [List.mem_singleton.1 hu]; rfl)
def bool : Rep Bool := flat 1 (fun x => [.bool x]) (fun _ => rfl) (fun x u hu => by rw [List.mem_singleton.1 hu]; rfl)
def bs (l : List UInt8) : ByteArray := ⟨l.toArray⟩
theorem bs_size (a : List UInt8) : (bs a).size = a.length := by simp [bs, ByteArray.size]
def raw : Rep {v : Value // v.oneCell' = true} := flat 1 (fun x => [x.1]) (fun _ => rfl) (fun x u hu => by rw [List.mem_singleton.1 hu]; exact x.2)
def slice {α : Type} (d : Rep α) : Rep (List α) where
  sz := 1
  K := fun w S xs cs => ∃ A c, cs = [.slice A xs.length c] ∧ xs.length ≤ c ∧ Row d w S A xs
  len := by rintro w S x cs ⟨A, c, rfl, _⟩; rfl
  one := by rintro w S x cs ⟨A, c, rfl, _⟩ u hu; rw [List.mem_singleton.1 hu]; rfl
  mono := by rintro w S S' x cs hS ⟨A, c, rfl, hl, h⟩; exact ⟨A, c, rfl, hl, h.mono hS⟩
  move := by rintro w w' S x cs hm ⟨A, c, rfl, hl, h⟩; exact ⟨A, c, rfl, hl, h.move hm⟩
  bound := by rintro w S x cs ⟨A, c, rfl, hl, h⟩; exact ⟨A, c, rfl, hl, h.bound⟩
inductive Leaf : Type 1
  | val (v : Value)
  | row {β : Type} (d : Rep β) (xs : List β)
def Leaf.K (w : World) (S : Nat → Prop) : Leaf → Value → Prop
  | .val v, c => c = v
  | .row d xs, c => ∃ A n, c = .slice A xs.length n ∧ xs.length ≤ n ∧ Row d w S A xs
def Leaf.ok : Leaf → Prop
  | .val v => v.oneCell' = true
  | .row _ _ => True
def KL (w : World) (S : Nat → Prop) : List Leaf → List Value → Prop
  | [], cs => cs = []
  | l :: ls, cs => ∃ c r, cs = c :: r ∧ l.K w S c ∧ KL w S ls r
theorem Leaf.K_one {w : World} {S : Nat → Prop} : ∀ {l : Leaf} {c : Value}, l.ok → l.K w S c → c.oneCell' = true
  | .val v, c, h, hk => by rw [show c = v from hk]; exact h
  | .row d xs, c, _, hk => by obtain ⟨A, n, rfl, _⟩ := hk; rfl
theorem Leaf.K_mono {w : World} {S S' : Nat → Prop} (hS : ∀ k, S k → S' k) : ∀ {l : Leaf} {c : Value}, l.K w S c → l.K w S' c
  | .val v, c, hk => hk
  | .row d xs, c, hk => by obtain ⟨A, n, e, hl, h⟩ := hk; exact ⟨A, n, e, hl, h.mono hS⟩
theorem Leaf.K_move {w w' : World} {S : Nat → Prop} (hm : ∀ k, S k → w'.heap[k]? = w.heap[k]?) : ∀ {l : Leaf} {c : Value}, l.K w S c → l.K w' S c
  | .val v, c, hk => hk
  | .row d xs, c, hk => by obtain ⟨A, n, e, hl, h⟩ := hk; exact ⟨A, n, e, hl, h.move hm⟩
theorem Leaf.K_bound {w : World} {S : Nat → Prop} : ∀ {l : Leaf} {c : Value}, l.K w S c → l.K w (fun k => S k ∧ k < w.heap.size) c
  | .val v, c, hk => hk
  | .row d xs, c, hk => by obtain ⟨A, n, e, hl, h⟩ := hk; exact ⟨A, n, e, hl, h.bound⟩
theorem KL_len {w : World} {S : Nat → Prop} : ∀ {ls : List Leaf} {cs : List Value}, KL w S ls cs → cs.length = ls.length
  | [], cs, h => by rw [show cs = [] from h]; rfl
  | l :: ls, cs, h => by obtain ⟨c, r, rfl, _, hr⟩ := h; simp [KL_len hr]
theorem KL_one {w : World} {S : Nat → Prop} : ∀ {ls : List Leaf} {cs : List Value}, (∀ l ∈ ls, l.ok) → KL w S ls cs → ∀ u ∈ cs, u.oneCell' = true
  | [], cs, _, h, u, hu => by rw [show cs = [] from h] at hu; cases hu
  | l :: ls, cs, ho, h, u, hu => by
    obtain ⟨c, r, rfl, hc, hr⟩ := h
    rcases List.mem_cons.1 hu with rfl | hu
    · exact Leaf.K_one (ho l List.mem_cons_self) hc
    · exact KL_one (fun l hl => ho l (List.mem_cons_of_mem _ hl)) hr u hu
theorem KL_imp {w w' : World} {S S' : Nat → Prop} (f : ∀ {l : Leaf} {c}, l.K w S c → l.K w' S' c) : ∀ {ls : List Leaf} {cs : List Value}, KL w S ls cs → KL w' S' ls cs
  | [], cs, h => h
  | l :: ls, cs, h => by obtain ⟨c, r, e, hc, hr⟩ := h; exact ⟨c, r, e, f hc, KL_imp f hr⟩
def strct {α : Type} (sz : Nat) (fs : α → List Leaf) (hl : ∀ x, (fs x).length = sz) (ho : ∀ x, ∀ l ∈ fs x, l.ok) : Rep α where
  sz := sz
  K := fun w S x cs => KL w S (fs x) cs
  len := fun h => by rw [KL_len h]; exact hl _
  one := fun h => KL_one (ho _) h
  mono := fun hS h => KL_imp (fun hk => Leaf.K_mono hS hk) h
  move := fun hm h => KL_imp (fun hk => Leaf.K_move hm hk) h
  bound := fun h => KL_imp (fun hk => Leaf.K_bound hk) h
section
variable {α : Type} {d : Rep α} {w : World} {S : Nat → Prop} {A : Option Addr} {xs : List α}
end
def Reps {α : Type} (R : α → List Value → Prop) (size : Nat) (ps : List α) (cs : List Value) : Prop :=
  cs.length = ps.length * size ∧ ∀ (j : Nat) p, ps[j]? = some p → R p ((cs.drop (j * size)).take size)
theorem Reps.none {α : Type} (R : α → List Value → Prop) (size : Nat) : Reps R size [] [] := ⟨by simp, fun j p h => by simp at h⟩
theorem Reps.imp {α : Type} {R R' : α → List Value → Prop} {size : Nat} {ps : List α} {cs : List Value} (f : ∀ p c, R p c → R' p c) (h : Reps R size ps cs) : Reps R' size ps cs := ⟨h.1, fun j p hp => f _ _ (h.2 j p hp)⟩
theorem Reps.app {α : Type} {R : α → List Value → Prop} {size : Nat} {ps qs : List α} {cs ds : List Value} (h : Reps R size ps cs) (h2 : Reps R size qs ds) : Reps R size (ps ++ qs) (cs ++ ds) := by
  refine ⟨by rw [List.length_append, h.1, h2.1, List.length_append, Nat.add_mul], fun j q hq => ?_⟩
  rcases Nat.lt_or_ge j ps.length with hj | hj
  · rw [List.getElem?_append_left hj] at hq
    have h3 := h.2 j q hq
    have h4 : j * size + size ≤ cs.length := by rw [h.1]; have := Nat.mul_le_mul_right size (show j + 1 ≤ ps.length by omega); rw [Nat.add_mul, Nat.one_mul] at this; omega
    rw [List.drop_append_of_le_length (by omega), List.take_append_of_le_length (by rw [List.length_drop]; omega)]
    exact h3
  · rw [List.getElem?_append_right hj] at hq
    have h3 := h2.2 _ q hq
    have h4 : cs.length ≤ j * size := by rw [h.1]; exact Nat.mul_le_mul_right _ hj
    rw [List.drop_append, List.drop_eq_nil_of_le h4, List.nil_append, show j * size - cs.length = (j - ps.length) * size by rw [h.1, Nat.sub_mul]]
    exact h3
theorem Reps.single {α : Type} {R : α → List Value → Prop} {size : Nat} {p : α} {c : List Value} (hp : R p c) (hc : c.length = size) : Reps R size [p] c := by
  refine ⟨by simp [hc], fun j q hq => ?_⟩
  cases j with
  | zero => simp at hq; subst hq; rw [Nat.zero_mul, List.drop_zero, List.take_of_length_le (by omega)]; exact hp
  | succ j => simp at hq
theorem Reps.cells {α : Type} {R : α → List Value → Prop} {size : Nat} {ps : List α} {cs : List Value} (h : Reps R size ps cs) {i j : Nat} {p : α} (hp : ps[i]? = some p) (hj : j < size) : cs[i * size + j]? = ((cs.drop (i * size)).take size)[j]? := by
  rw [List.getElem?_take, if_pos hj, List.getElem?_drop]
theorem Reps.set {α : Type} {R : α → List Value → Prop} {size : Nat} {ps : List α} {cs : List Value} (h : Reps R size ps cs) {i j : Nat} {p : α} {u : Value} (hj : j < size) (hi : i < ps.length) (hR : R p (((cs.drop (i * size)).take size).set j u)) : Reps R size (ps.set i p) (cs.set (i * size + j) u) := by
  refine ⟨by rw [List.length_set, List.length_set]; exact h.1, fun k q hq => ?_⟩
  by_cases hk : k = i
  · subst hk
    rw [List.getElem?_set_self hi] at hq
    injection hq with hq
    subst hq
    rw [show ((cs.set (k * size + j) u).drop (k * size)).take size = ((cs.drop (k * size)).take size).set j u by
      rw [List.drop_set, if_neg (by omega), show k * size + j - k * size = j by omega, List.take_set]]
    exact hR
  · rw [List.getElem?_set_ne (by omega)] at hq
    have h3 := h.2 k q hq
    have : ((cs.set (i * size + j) u).drop (k * size)).take size = (cs.drop (k * size)).take size := by
      rw [List.drop_set]
      split
      · rfl
      · rename_i hlt
        rw [List.take_set]
        rw [List.set_eq_of_length_le]
        rw [List.length_take]
        have : (k + 1) * size ≤ i * size := by
          apply Nat.mul_le_mul_right
          rcases Nat.lt_or_gt_of_ne hk with h5 | h5
          · omega
          · exfalso
            have := Nat.mul_le_mul_right size (show i + 1 ≤ k by omega)
            rw [Nat.add_mul, Nat.one_mul] at this
            omega
        rw [Nat.add_mul, Nat.one_mul] at this
        omega
    rw [this]
    exact h3
def Own {α : Type} (d : Rep α) (e : Nat) (w : World) (F S : Nat → Prop) (v : Value) (xs : List α) : Prop :=
  (∀ k, v.ownBlock = some k → S k) ∧ ∃ cells, w.ownsRow 0 e d.sz v xs.length cells ∧ Reps (d.K w (fun k => F k ∨ (S k ∧ some k ≠ v.ownBlock))) d.sz xs cells
theorem own_move {w w1 : World} {base : Nat} {e : TypeId} {size n : Nat} {v : Value} {xs : List Value} (h : w.ownsRow base e size v n xs) (hm : ∀ k, v.ownBlock = some k → w1.heap[k]? = w.heap[k]?) : w1.ownsRow base e size v n xs := by
  obtain ⟨h1, h2⟩ := h
  refine ⟨h1, ?_⟩
  rcases h2 with h2 | ⟨g, cap, cur, rfl, hg, hh, r⟩
  · exact .inl h2
  · exact .inr ⟨g, cap, cur, rfl, hg, (hm g (by simp [Value.ownBlock])).trans hh, r⟩
theorem own_lt {w : World} {base : Nat} {e : TypeId} {size n : Nat} {v : Value} {xs : List Value} (h : w.ownsRow base e size v n xs) (k : Nat) (hk : v.ownBlock = some k) : k < w.heap.size := (h.lt k hk).2
section
variable {α : Type} {d : Rep α} {e : Nat} {w w' : World} {F F' S S' : Nat → Prop} {v : Value} {xs : List α}
theorem Own.nil : Own d e w F S (.slice none 0 0) [] := ⟨fun k hk => by simp [Value.ownBlock] at hk, [], World.ownsRow_nil _ _ _ _, Reps.none _ _⟩
theorem Own.mono (hF : ∀ k, F k → F' k ∨ (S' k ∧ some k ≠ v.ownBlock)) (hS : ∀ k, S k → S' k) (h : Own d e w F S v xs) : Own d e w F' S' v xs := by
  obtain ⟨h1, cells, ho, hr⟩ := h
  exact ⟨fun k hk => hS k (h1 k hk), cells, ho, hr.imp fun p c hp => d.mono (fun k hk => hk.elim (fun h => hF k h) (fun h => .inr ⟨hS k h.1, h.2⟩)) hp⟩
theorem Own.move (hm : ∀ k, F k ∨ S k → w'.heap[k]? = w.heap[k]?) (h : Own d e w F S v xs) : Own d e w' F S v xs := by
  obtain ⟨h1, cells, ho, hr⟩ := h
  exact ⟨h1, cells, own_move ho (fun k hk => hm k (.inr (h1 k hk))), hr.imp fun p c hp => d.move (fun k hk => hm k (hk.elim .inl (fun h => .inr h.1))) hp⟩
theorem Own.bound (h : Own d e w F S v xs) : Own d e w (fun k => F k ∧ k < w.heap.size) (fun k => S k ∧ k < w.heap.size) v xs := by
  obtain ⟨h1, cells, ho, hr⟩ := h
  exact ⟨fun k hk => ⟨h1 k hk, own_lt ho k hk⟩, cells, ho, hr.imp fun p c hp => d.mono (fun k hk => hk.1.elim (fun h => .inl ⟨h, hk.2⟩) (fun h => .inr ⟨⟨h.1, hk.2⟩, h.2⟩)) (d.bound hp)⟩
theorem Own.len (h : Own d e w F S v xs) (hd : 0 < d.sz) : xs.length ≤ maxLen := by
  obtain ⟨h1, cells, ho, hr⟩ := h
  rcases ho.2 with ⟨_, h0⟩ | ⟨g, cap, cur, rfl, _, hh, hn, hm, hs, ht⟩
  · omega
  · omega
theorem Own.row (hd : 0 < d.sz) (h : Own d e w F S v xs) : ∃ A c, v = .slice A xs.length c ∧ xs.length ≤ c ∧ Row d w (fun k => F k ∨ S k) A xs := by
  have hlen := h.len hd
  obtain ⟨h1, cells, ho, hr⟩ := h
  rcases ho.2 with ⟨rfl, h0⟩ | ⟨g, cap, cur, rfl, _, hh, hn, hm, hs, ht⟩
  · have : xs = [] := List.eq_nil_of_length_eq_zero h0
    subst this
    exact ⟨none, 0, rfl, Nat.le_refl _, Row.nil⟩
  · refine ⟨_, cap, rfl, hn, hlen, fun hp => ⟨_, rfl, .inr (h1 g rfl), own_lt ho g rfl, fun i x hx => ?_⟩⟩
    have hl : i < xs.length := by
      rcases Nat.lt_or_ge i xs.length with h1 | h1
      · exact h1
      · rw [List.getElem?_eq_none h1] at hx; cases hx
    have hK := hr.2 i x hx
    refine ⟨_, d.mono (fun k hk => hk.elim .inl fun h => .inr h.1) hK, fun j u hu => ?_⟩
    have hj : j < d.sz := by
      have h3 := d.len hK
      rcases Nat.lt_or_ge j d.sz with h4 | h4
      · exact h4
      · rw [List.getElem?_eq_none (by omega)] at hu; cases hu
    rw [← hr.cells hx hj, ← ht] at hu
    rw [add_plain]
    simp only [World.cell?, hh]
    rw [List.getElem?_take] at hu
    split at hu
    · simpa using hu
    · cases hu
theorem Own.cell {g c n : Nat} (h : Own d e w F S (.slice (some ⟨g, 0, none⟩) n c) xs) {i j : Nat} {x : α} (hx : xs[i]? = some x) (hj : j < d.sz) :
    ∃ cs, d.K w (fun k => F k ∨ S k) x cs ∧ (∀ (j : Nat) u, cs[j]? = some u → w.cell? ⟨g, i * d.sz + j, none⟩ = some u) ∧ w.frozen? ⟨g, i * d.sz + j, none⟩ = false := by
  have hd : 0 < d.sz := by omega
  obtain ⟨A, c', e1, _, hrow⟩ := h.row hd
  obtain ⟨ad, cs, e2, _, hK, hc⟩ := hrow.at_ hx
  injection e1 with e1
  rw [← e1] at e2
  injection e2 with e2
  subst e2
  refine ⟨cs, hK, fun j u hu => by have := hc j u hu; rwa [add_plain] at this, ?_⟩
  obtain ⟨h1, cells, ho, hr⟩ := h
  rcases ho.2 with ⟨h0, _⟩ | ⟨g', cap, cur, h0, _, hh, _⟩
  · cases h0
  · injection h0 with h0; injection h0 with h0; injection h0 with h0; subst h0
    simp [World.frozen?, hh]
theorem Own.set {g c n : Nat} (h : Own d e w F S (.slice (some ⟨g, 0, none⟩) n c) xs) (hFS : ∀ k, F k → ¬ S k) {i j : Nat} {x x' : α} {u : Value} (hx : xs[i]? = some x) (hj : j < d.sz)
    (hK : ∀ T cs, d.K w T x cs → d.K w T x' (cs.set j u)) :
    Own d e (w.setCell ⟨g, i * d.sz + j, none⟩ u) F S (.slice (some ⟨g, 0, none⟩) n c) (xs.set i x') ∧ w.grownBy (w.setCell ⟨g, i * d.sz + j, none⟩ u) (some g) := by
  have hl : i < xs.length := by
    rcases Nat.lt_or_ge i xs.length with h1 | h1
    · exact h1
    · rw [List.getElem?_eq_none h1] at hx; cases hx
  obtain ⟨h1, cells, ho, hr⟩ := h
  obtain ⟨hn, _⟩ : n = xs.length ∧ True := by
    rcases ho.2 with ⟨h0, _⟩ | ⟨g', cap, cur, h0, _⟩
    · cases h0
    · injection h0 with _ h0 _; exact ⟨h0, trivial⟩
  subst hn
  have hs := ho.stored (g := g) (i * d.sz + j) u
  refine ⟨⟨h1, cells.set (i * d.sz + j) u, ?_, ?_⟩, hs.2⟩
  · rw [List.length_set]; exact hs.1
  · have h2 : Reps (d.K w (fun k => F k ∨ (S k ∧ some k ≠ (Value.slice (some ⟨g, 0, none⟩) xs.length c).ownBlock))) d.sz (xs.set i x') (cells.set (i * d.sz + j) u) :=
      hr.set hj hl (hK _ _ (hr.2 i x hx))
    have hg : S g := h1 g rfl
    exact h2.imp fun p c hp => d.move (fun k hk => Below.heap_setCell w ⟨g, i * d.sz + j, none⟩ u k (by
      rintro rfl
      rcases hk with hk | hk
      · exact hFS _ hk hg
      · exact hk.2 rfl)) hp
end
structure Asr where
  P : World → (Nat → Prop) → (Nat → Prop) → Prop
  mono : ∀ {w : World} {F F' S S' : Nat → Prop}, (∀ k, F k → F' k) → (∀ k, S k → S' k) → P w F S → P w F' S'
  move : ∀ {w w' : World} {F S : Nat → Prop}, (∀ k, F k ∨ S k → w'.heap[k]? = w.heap[k]?) → P w F S → P w' F S
  bound : ∀ {w : World} {F S : Nat → Prop}, P w F S → P w (fun k => F k ∧ k < w.heap.size) (fun k => S k ∧ k < w.heap.size)
  join : ∀ {w : World} {F S : Nat → Prop}, (∀ k, F k → ¬ S k) → P w F S → P w (fun _ => False) (fun k => F k ∨ S k)
theorem Asr.step (a : Asr) {w w' : World} {F S : Nat → Prop} (hm : ∀ k, F k ∨ S k → k < w.heap.size → w'.heap[k]? = w.heap[k]?) (h : a.P w F S) : a.P w' F S :=
  a.mono (fun _ hk => hk.1) (fun _ hk => hk.1) (a.move (fun k hk => hk.elim (fun h => hm k (.inl h.1) h.2) (fun h => hm k (.inr h.1) h.2)) (a.bound h))
def own {α : Type} (d : Rep α) (e : Nat) (v : Value) (xs : List α) : Asr where
  P := fun w F S => Own d e w F S v xs
  mono := fun hF hS h => h.mono (fun k hk => .inl (hF k hk)) hS
  move := fun hm h => h.move hm
  bound := fun h => h.bound
  join := fun hd h => h.mono (fun k hk => .inr ⟨.inl hk, fun e => hd k hk (h.1 k e.symm)⟩) (fun k hk => .inr hk)
def row {α : Type} (d : Rep α) (A : Option Addr) (xs : List α) : Asr where
  P := fun w F S => Row d w (fun k => F k ∨ S k) A xs
  mono := fun hF hS h => h.mono fun k hk => hk.elim (fun h => .inl (hF k h)) (fun h => .inr (hS k h))
  move := fun hm h => h.move hm
  bound := fun h => h.bound.mono fun k hk => hk.1.elim (fun h => .inl ⟨h, hk.2⟩) (fun h => .inr ⟨h, hk.2⟩)
  join := fun _ h => h.mono fun k hk => .inr hk
def cells {α : Type} (d : Rep α) (cs : List Value) (x : α) : Asr where
  P := fun w F S => d.K w (fun k => F k ∨ S k) x cs
  mono := fun hF hS h => d.mono (fun k hk => hk.elim (fun h => .inl (hF k h)) (fun h => .inr (hS k h))) h
  move := fun hm h => d.move hm h
  bound := fun h => d.mono (fun k hk => hk.1.elim (fun h => .inl ⟨h, hk.2⟩) (fun h => .inr ⟨h, hk.2⟩)) (d.bound h)
  join := fun _ h => d.mono (fun k hk => .inr hk) h
def box (g t : Nat) (cs : List Value) : Asr where
  P := fun w _ S => S g ∧ w.heap[g]? = some (.cells cs.toArray t (0, 0))
  mono := fun _ hS h => ⟨hS _ h.1, h.2⟩
  move := fun hm h => ⟨h.1, (hm _ (.inr h.1)).trans h.2⟩
  bound := fun h => ⟨⟨h.1, by
    rcases Nat.lt_or_ge g _ with h1 | h1
    · exact h1
    · rw [Array.getElem?_eq_none h1] at h; cases h.2⟩, h.2⟩
  join := fun _ h => ⟨.inr h.1, h.2⟩
def Star : List Asr → World → (Nat → Prop) → (Nat → Prop) → Prop
  | [], _, _, _ => True
  | a :: l, w, F, S => ∃ S1 S2 : Nat → Prop, (∀ k, S1 k → S k) ∧ (∀ k, S2 k → S k) ∧ (∀ k, S1 k → ¬ S2 k) ∧ a.P w F S1 ∧ Star l w F S2
theorem Star.mono {w : World} {F F' : Nat → Prop} : ∀ {l : List Asr} {S S' : Nat → Prop}, (∀ k, F k → F' k) → (∀ k, S k → S' k) → Star l w F S → Star l w F' S'
  | [], _, _, _, _, _ => trivial
  | a :: l, S, S', hF, hS, ⟨S1, S2, h1, h2, h3, h4, h5⟩ => ⟨S1, S2, fun k h => hS k (h1 k h), fun k h => hS k (h2 k h), h3, a.mono hF (fun _ h => h) h4, Star.mono hF (fun _ h => h) h5⟩
theorem Star.move {w w' : World} {F : Nat → Prop} : ∀ {l : List Asr} {S : Nat → Prop}, (∀ k, F k ∨ S k → w'.heap[k]? = w.heap[k]?) → Star l w F S → Star l w' F S
  | [], _, _, _ => trivial
  | a :: l, S, hm, ⟨S1, S2, h1, h2, h3, h4, h5⟩ => ⟨S1, S2, h1, h2, h3, a.move (fun k hk => hm k (hk.elim .inl fun h => .inr (h1 k h))) h4, Star.move (fun k hk => hm k (hk.elim .inl fun h => .inr (h2 k h))) h5⟩
theorem Star.bound {w : World} {F : Nat → Prop} : ∀ {l : List Asr} {S : Nat → Prop}, Star l w F S → Star l w (fun k => F k ∧ k < w.heap.size) (fun k => S k ∧ k < w.heap.size)
  | [], _, _ => trivial
  | a :: l, S, ⟨S1, S2, h1, h2, h3, h4, h5⟩ => ⟨_, _, fun k h => ⟨h1 k h.1, h.2⟩, fun k h => ⟨h2 k h.1, h.2⟩, fun k h h' => h3 k h.1 h'.1, a.bound h4, Star.bound h5⟩
theorem Star.step {w w' : World} {F : Nat → Prop} {l : List Asr} {S : Nat → Prop} (hm : ∀ k, F k ∨ S k → k < w.heap.size → w'.heap[k]? = w.heap[k]?) (h : Star l w F S) : Star l w' F S :=
  Star.mono (fun _ hk => hk.1) (fun _ hk => hk.1) (Star.move (fun k hk => hk.elim (fun h => hm k (.inl h.1) h.2) (fun h => hm k (.inr h.1) h.2)) (Star.bound h))
theorem Star.perm {w : World} {F : Nat → Prop} {l l' : List Asr} (h : l.Perm l') : ∀ {S : Nat → Prop}, Star l w F S → Star l' w F S := by
  induction h with
  | nil => exact fun h => h
  | cons a _ ih => rintro S ⟨S1, S2, h1, h2, h3, h4, h5⟩; exact ⟨S1, S2, h1, h2, h3, h4, ih h5⟩
  | swap a b l =>
    rintro S ⟨S1, S2, h1, h2, h3, h4, T1, T2, k1, k2, k3, k4, k5⟩
    exact ⟨T1, fun k => S1 k ∨ T2 k, fun k h => h2 k (k1 k h), fun k h => h.elim (h1 k) (fun h => h2 k (k2 k h)), fun k h h' => h'.elim (fun h' => h3 k h' (k1 k h)) (k3 k h), k4, S1, T2, fun k h => .inl h, fun k h => .inr h, fun k h h' => h3 k h (k2 k h'), h4, k5⟩
  | trans _ _ ih1 ih2 => exact fun h => ih2 (ih1 h)
theorem Star.append {w : World} {F : Nat → Prop} {l2 : List Asr} : ∀ {l1 : List Asr} {S1 S2 : Nat → Prop}, (∀ k, S1 k → ¬ S2 k) → Star l1 w F S1 → Star l2 w F S2 → Star (l1 ++ l2) w F (fun k => S1 k ∨ S2 k)
  | [], S1, S2, hd, _, h2 => h2.mono (fun _ h => h) (fun _ h => .inr h)
  | a :: l1, S1, S2, hd, ⟨T1, T2, k1, k2, k3, k4, k5⟩, h2 =>
    ⟨T1, fun k => T2 k ∨ S2 k, fun k h => .inl (k1 k h), fun k h => h.elim (fun h => .inl (k2 k h)) .inr, fun k h h' => h'.elim (k3 k h) (hd k (k1 k h)), k4, Star.append (fun k h => hd k (k2 k h)) k5 h2⟩
theorem Star.item {w : World} {F : Nat → Prop} {a : Asr} : ∀ {l : List Asr} {S : Nat → Prop}, a ∈ l → Star l w F S → ∃ S', (∀ k, S' k → S k) ∧ a.P w F S'
  | b :: l, S, h, ⟨S1, S2, h1, h2, _, h4, h5⟩ => by
    rcases List.mem_cons.1 h with rfl | h
    · exact ⟨S1, h1, h4⟩
    · obtain ⟨S', k1, k2⟩ := Star.item h h5
      exact ⟨S', fun k hk => h2 k (k1 k hk), k2⟩
structure Keep (M : Nat → Prop) (w w' : World) : Prop where
  os : w'.os = w.os
  tape : w'.tape = w.tape
  output : w'.output = w.output
  size : w.heap.size ≤ w'.heap.size
  block : ∀ k, k < w.heap.size → ¬ M k → w'.heap[k]? = w.heap[k]?
section
variable {M M1 : Nat → Prop} {w0 W W1 : World}
theorem Keep.refl (M : Nat → Prop) (w : World) : Keep M w w := ⟨rfl, rfl, rfl, Nat.le_refl _, fun _ _ _ => rfl⟩
theorem Keep.grown (h : Keep M w0 W) {g : Option Nat} (hg : W.grownBy W1 g) (hM : ∀ k, g = some k → M k ∨ w0.heap.size ≤ k) : Keep M w0 W1 :=
  ⟨hg.os.trans h.os, hg.tape.trans h.tape, hg.output.trans h.output, Nat.le_trans h.size hg.size, fun k hk hm => (hg.block k (Nat.lt_of_lt_of_le hk h.size) (fun e => (hM k e.symm).elim hm (fun h => Nat.not_le.2 hk h))).trans (h.block k hk hm)⟩
theorem Keep.trans (h : Keep M w0 W) (h1 : Keep M1 W W1) (hM : ∀ k, M1 k → M k ∨ w0.heap.size ≤ k) : Keep M w0 W1 :=
  ⟨h1.os.trans h.os, h1.tape.trans h.tape, h1.output.trans h.output, Nat.le_trans h.size h1.size, fun k hk hm => (h1.block k (Nat.lt_of_lt_of_le hk h.size) (fun e => (hM k e).elim hm (fun h => Nat.not_le.2 hk h))).trans (h.block k hk hm)⟩
theorem Keep.below (h : Keep (fun _ => False) w0 W) : Below w0.heap.size w0 W := ⟨h.os, h.tape, h.output, h.size, fun k hk => h.block k hk id⟩
end
def MemM (M Z : Nat → Prop) (w0 W : World) (R l : List Asr) : Prop :=
  (Keep M w0 W ∧ ∀ k, Z k → k < w0.heap.size ∧ ¬ M k) ∧ ∃ F S : Nat → Prop, (∀ k, F k → Z k ∨ M k ∨ w0.heap.size ≤ k) ∧ (∀ k, S k → M k ∨ w0.heap.size ≤ k) ∧ (∀ k, F k → ¬ S k) ∧ (∀ k, F k → k < W.heap.size) ∧ (∀ k, S k → k < W.heap.size) ∧ (∀ a ∈ R, a.P W F (fun _ => False)) ∧ Star l W F S
abbrev Mem (w0 W : World) (R l : List Asr) : Prop := MemM (fun _ => False) (fun _ => False) w0 W R l
section
variable {M Z : Nat → Prop} {w0 W W1 : World} {R R1 l l1 : List Asr} {a b c : Asr}
theorem MemM.startM {M Z : Nat → Prop} {w : World} (hZ : ∀ k, Z k → k < w.heap.size ∧ ¬ M k) : MemM M Z w w [] [] := ⟨⟨Keep.refl _ _, hZ⟩, fun _ => False, fun _ => False, fun _ h => h.elim, fun _ h => h.elim, fun _ h => h.elim, fun _ h => h.elim, fun _ h => h.elim, (fun a h => by cases h), trivial⟩
theorem MemM.start (w : World) : Mem w w [] [] := MemM.startM (fun _ h => h.elim)
theorem MemM.keep (H : MemM M Z w0 W R l) : Keep M w0 W := H.1.1
theorem MemM.below (H : Mem w0 W R l) : Below w0.heap.size w0 W := H.1.1.below
theorem MemM.grown (H : MemM M Z w0 W R l) (hg : W.grownBy W1 none) : MemM M Z w0 W1 R l := by
  obtain ⟨hB, F, S, h1, h2, h3, h4, h5, h6, h7⟩ := H
  have hm : ∀ k, k < W.heap.size → W1.heap[k]? = W.heap[k]? := fun k hk => hg.block k hk (by simp)
  exact ⟨⟨hB.1.grown hg (by simp), hB.2⟩, F, S, h1, h2, h3, fun k h => Nat.lt_of_lt_of_le (h4 k h) hg.size, fun k h => Nat.lt_of_lt_of_le (h5 k h) hg.size, fun a ha => a.step (fun k _ hk => hm k hk) (h6 a ha), h7.step (fun k _ hk => hm k hk)⟩
theorem MemM.alloc (H : MemM M Z w0 W R l) (o : Obj) : MemM M Z w0 (W.alloc o) R l := H.grown (World.grownBy_alloc W o none)
theorem MemM.drew (H : MemM M Z w0 W R l) : MemM M Z w0 W.drew R l := H.grown ⟨rfl, rfl, rfl, Nat.le_refl _, fun _ _ _ => rfl⟩
theorem MemM.drewN (H : MemM M Z w0 W R l) (n : Nat) : MemM M Z w0 (W.drewN n) R l := H.grown ⟨rfl, rfl, rfl, Nat.le_refl _, fun _ _ _ => rfl⟩
theorem MemM.perm (H : MemM M Z w0 W R l) (h : l.Perm l1) : MemM M Z w0 W R l1 := by
  obtain ⟨hB, F, S, h1, h2, h3, h4, h5, h6, h7⟩ := H
  exact ⟨hB, F, S, h1, h2, h3, h4, h5, h6, h7.perm h⟩
theorem MemM.pull1 (H : MemM M Z w0 W R (a :: b :: l)) : MemM M Z w0 W R (b :: a :: l) := H.perm (.swap _ _ _)
theorem MemM.pull2 (H : MemM M Z w0 W R (a :: b :: c :: l)) : MemM M Z w0 W R (c :: a :: b :: l) := H.perm (List.Perm.trans (.cons _ (.swap _ _ _)) (.swap _ _ _))
theorem MemM.pull {l2 : List Asr} (H : MemM M Z w0 W R (l1 ++ b :: l2)) : MemM M Z w0 W R (b :: (l1 ++ l2)) := H.perm List.perm_middle
theorem MemM.push {l2 : List Asr} (H : MemM M Z w0 W R (b :: (l1 ++ l2))) : MemM M Z w0 W R (l1 ++ b :: l2) := H.perm List.perm_middle.symm
theorem MemM.drop (H : MemM M Z w0 W R (a :: l)) : MemM M Z w0 W R l := by
  obtain ⟨hB, F, S, h1, h2, h3, h4, h5, h6, S1, S2, k1, k2, k3, k4, k5⟩ := H
  exact ⟨hB, F, S, h1, h2, h3, h4, h5, h6, k5.mono (fun _ h => h) k2⟩
theorem MemM.onlyR (H : MemM M Z w0 W R l) (h : ∀ x ∈ R1, x ∈ R) : MemM M Z w0 W R1 l := by
  obtain ⟨hB, F, S, h1, h2, h3, h4, h5, h6, h7⟩ := H
  exact ⟨hB, F, S, h1, h2, h3, h4, h5, fun x hx => h6 x (h x hx), h7⟩
theorem MemM.noR (H : MemM M Z w0 W R l) : MemM M Z w0 W [] l := H.onlyR (fun _ h => by cases h)
theorem MemM.swapLast (H : MemM M Z w0 W R (a :: b :: (l ++ [c]))) : MemM M Z w0 W R (b :: (l ++ [a])) := by
  have h : MemM M Z w0 W R (c :: (a :: b :: l)) := H.perm (by
    have := (List.perm_append_comm (l₁ := a :: b :: l) (l₂ := [c]))
    exact this)
  exact h.drop.perm (by
    have := (List.perm_append_comm (l₁ := [a]) (l₂ := b :: l))
    exact this)
theorem MemM.freeze (H : MemM M Z w0 W R (a :: l)) (f : ∀ F S : Nat → Prop, (∀ k, F k → ¬ S k) → a.P W F S → b.P W (fun k => F k ∨ S k) (fun _ => False)) : MemM M Z w0 W (b :: R) l := by
  obtain ⟨hB, F, S, h1, h2, h3, h4, h5, h6, S1, S2, k1, k2, k3, k4, k5⟩ := H
  refine ⟨hB, fun k => F k ∨ S1 k, S2, fun k h => h.elim (h1 k) (fun h => .inr (h2 k (k1 k h))), fun k h => h2 k (k2 k h), fun k h h' => h.elim (fun h => h3 k h (k2 k h')) (fun h => k3 k h h'), fun k h => h.elim (h4 k) (fun h => h5 k (k1 k h)), fun k h => h5 k (k2 k h), fun x hx => ?_, k5.mono (fun k h => .inl h) (fun _ h => h)⟩
  rcases List.mem_cons.1 hx with rfl | hx
  · exact f _ _ (fun k hk h => h3 k hk (k1 k h)) k4
  · exact x.mono (fun k h => .inl h) (fun _ h => h) (h6 x hx)
theorem MemM.item (H : MemM M Z w0 W R l) (ha : a ∈ l) : ∃ F S : Nat → Prop, (∀ k, F k → ¬ S k) ∧ (∀ k, F k → k < W.heap.size) ∧ (∀ k, S k → k < W.heap.size) ∧ a.P W F S := by
  obtain ⟨hB, F, S, h1, h2, h3, h4, h5, h6, h7⟩ := H
  obtain ⟨S', k1, k2⟩ := h7.item ha
  exact ⟨F, S', fun k hk h => h3 k hk (k1 k h), h4, fun k h => h5 k (k1 k h), k2⟩
theorem MemM.new (H : MemM M Z w0 W R l) (hg : W.grownBy W1 none) (hb : b.P W1 (fun _ => False) (fun k => W.heap.size ≤ k)) : MemM M Z w0 W1 R (b :: l) := by
  have H1 := H
  obtain ⟨hB, F, S, h1, h2, h3, h4, h5, h6, h7⟩ := H
  obtain ⟨hB1, _⟩ := H1.grown hg
  have hm : ∀ k, k < W.heap.size → W1.heap[k]? = W.heap[k]? := fun k hk => hg.block k hk (by simp)
  refine ⟨hB1, F, fun k => S k ∨ (W.heap.size ≤ k ∧ k < W1.heap.size), h1, fun k h => h.elim (h2 k) (fun h => .inr (Nat.le_trans hB.1.size h.1)), fun k h h' => h'.elim (h3 k h) (fun h' => Nat.not_le.2 (h4 k h) h'.1), fun k h => Nat.lt_of_lt_of_le (h4 k h) hg.size, fun k h => h.elim (fun h => Nat.lt_of_lt_of_le (h5 k h) hg.size) (fun h => h.2), fun a ha => a.step (fun k _ hk => hm k hk) (h6 a ha), ?_⟩
  exact ⟨fun k => W.heap.size ≤ k ∧ k < W1.heap.size, S, fun k h => .inr h, fun k h => .inl h, fun k h h' => Nat.not_le.2 (h5 k h') h.1, b.mono (fun _ h => h.1.elim) (fun _ h => h) (b.bound hb), h7.step (fun k _ hk => hm k hk)⟩
theorem MemM.open1 (H : MemM M Z w0 W R (a :: l)) : ∃ F S : Nat → Prop, a.P W F S ∧ (∀ k, F k → ¬ S k) ∧ (∀ k, F k → k < W.heap.size) ∧ (∀ k, S k → (M k ∨ w0.heap.size ≤ k) ∧ k < W.heap.size) ∧ (∀ x ∈ R, x.P W F (fun _ => False)) ∧
    ∀ (W1 : World) (b : Asr) (g : Option Nat), W.grownBy W1 g → (∀ k, g = some k → S k) → b.P W1 F (fun k => S k ∨ W.heap.size ≤ k) → MemM M Z w0 W1 R (b :: l) := by
  obtain ⟨hB, F, S, h1, h2, h3, h4, h5, h6, S1, S2, k1, k2, k3, k4, k5⟩ := H
  refine ⟨F, S1, k4, fun k h h' => h3 k h (k1 k h'), h4, fun k h => ⟨h2 k (k1 k h), h5 k (k1 k h)⟩, h6, fun W1 b g hg hgS hb => ?_⟩
  have hm : ∀ k, k < W.heap.size → ¬ S1 k → W1.heap[k]? = W.heap[k]? := fun k hk hS => hg.block k hk (fun e => hS (hgS k e.symm))
  refine ⟨⟨hB.1.grown hg (fun k e => h2 k (k1 k (hgS k e))), hB.2⟩, F, fun k => S k ∨ (W.heap.size ≤ k ∧ k < W1.heap.size), h1, fun k h => h.elim (h2 k) (fun h => .inr (Nat.le_trans hB.1.size h.1)), fun k h h' => h'.elim (h3 k h) (fun h' => Nat.not_le.2 (h4 k h) h'.1), fun k h => Nat.lt_of_lt_of_le (h4 k h) hg.size, fun k h => h.elim (fun h => Nat.lt_of_lt_of_le (h5 k h) hg.size) (fun h => h.2), fun x hx => x.step (fun k hF hk => hm k hk (fun hS => hF.elim (fun hF => h3 k hF (k1 k hS)) id)) (h6 x hx), ?_⟩
  refine ⟨fun k => (S1 k ∨ W.heap.size ≤ k) ∧ k < W1.heap.size, S2, fun k h => h.1.elim (fun h => .inl (k1 k h)) (fun h' => .inr ⟨h', h.2⟩), fun k h => .inl (k2 k h), fun k h h' => h.1.elim (fun h => k3 k h h') (fun h => Nat.not_le.2 (h5 k (k2 k h')) h), b.mono (fun _ h => h.1) (fun _ h => h) (b.bound hb), k5.step (fun k hF hk => hm k hk (fun hS => hF.elim (fun hF => h3 k hF (k1 k hS)) (fun h => k3 k hS h)))⟩
theorem MemM.call (H : MemM M Z w0 W R l) (h : Mem W W1 R1 l1) : MemM M Z w0 W1 (R1 ++ R) (l1 ++ l) := by
  obtain ⟨hB, F, S, h1, h2, h3, h4, h5, h6, h7⟩ := H
  obtain ⟨hB', F', S', h1', h2', h3', h4', h5', h6', h7'⟩ := h
  have g1 : ∀ k, F' k → W.heap.size ≤ k := fun k h => (h1' k h).elim False.elim (fun h => h.elim False.elim id)
  have g2 : ∀ k, S' k → W.heap.size ≤ k := fun k h => (h2' k h).elim False.elim id
  have hm : ∀ k, k < W.heap.size → W1.heap[k]? = W.heap[k]? := fun k hk => hB'.1.block k hk id
  refine ⟨⟨hB.1.trans hB'.1 (fun k h => h.elim), hB.2⟩, fun k => F' k ∨ F k, fun k => S' k ∨ S k, fun k h => h.elim (fun h => .inr (.inr (Nat.le_trans hB.1.size (g1 k h)))) (h1 k), fun k h => h.elim (fun h => .inr (Nat.le_trans hB.1.size (g2 k h))) (h2 k), fun k h h' => h.elim (fun h => h'.elim (h3' k h) (fun h' => Nat.not_le.2 (h5 k h') (g1 k h))) (fun h => h'.elim (fun h' => Nat.not_le.2 (h4 k h) (g2 k h')) (h3 k h)), fun k h => h.elim (h4' k) (fun h => Nat.lt_of_lt_of_le (h4 k h) hB'.1.size), fun k h => h.elim (h5' k) (fun h => Nat.lt_of_lt_of_le (h5 k h) hB'.1.size), fun x hx => ?_, ?_⟩
  · rcases List.mem_append.1 hx with hx | hx
    · exact x.mono (fun k h => .inl h) (fun _ h => h) (h6' x hx)
    · exact x.mono (fun k h => .inr h) (fun _ h => h) (x.step (fun k _ hk => hm k hk) (h6 x hx))
  · exact Star.append (fun k h h' => Nat.not_le.2 (h5 k h') (g2 k h)) (h7'.mono (fun k h => .inl h) (fun _ h => h)) ((h7.step (fun k _ hk => hm k hk)).mono (fun k h => .inr h) (fun _ h => h))
end
section
variable {α : Type} {d : Rep α} {e : Nat} {M Z : Nat → Prop} {w0 W : World} {R l : List Asr} {v : Value} {xs : List α} {A : Option Addr}
theorem MemM.arg (H : Mem w0 W R l) (h : Row d w0 (· < w0.heap.size) A xs) : Row d W (· < W.heap.size) A xs :=
  (h.move fun k hk => H.keep.block k hk id).mono fun k hk => Nat.lt_of_lt_of_le hk H.keep.size
theorem MemM.rd (H : MemM M Z w0 W R l) (h : own d e v xs ∈ l) (hd : 0 < d.sz := by decide) : ∃ A c, v = .slice A xs.length c ∧ xs.length ≤ c ∧ Row d W (· < W.heap.size) A xs := by
  obtain ⟨F, S, _, h1, h2, h3⟩ := H.item h
  obtain ⟨A, c, e1, h4, h5⟩ := Own.row hd h3
  exact ⟨A, c, e1, h4, h5.mono fun k hk => hk.elim (h1 k) (h2 k)⟩
theorem MemM.rdx {n c : Nat} (H : MemM M Z w0 W R l) (h : own d e (.slice A n c) xs ∈ l) (hd : 0 < d.sz := by decide) : n = xs.length ∧ xs.length ≤ c ∧ Row d W (· < W.heap.size) A xs := by
  obtain ⟨A', c', e1, h1, h2⟩ := H.rd h hd
  injection e1 with e1 e2 e3
  subst e1; subst e2; subst e3
  exact ⟨rfl, h1, h2⟩
theorem row_of_P {F : Nat → Prop} (h : (row d A xs).P W F (fun _ => False)) : Row d W F A xs := by
  have h3 : Row d W (fun k => F k ∨ False) A xs := h
  exact h3.mono fun k hk => hk.elim id False.elim
theorem slK {c : Nat} (hc : xs.length ≤ c) (h : row d A xs ∈ R) : ∀ F : Nat → Prop, (∀ x ∈ R, x.P W F (fun _ => False)) → (slice d).K W F xs [.slice A xs.length c] :=
  fun F hF => ⟨A, c, rfl, hc, row_of_P (hF _ h)⟩
theorem MemM.boxcell {g t : Nat} {cs : List Value} (H : MemM M Z w0 W R l) (h : box g t cs ∈ l) (j : Nat) (u : Value) (hj : cs[j]? = some u) : W.cell? ⟨g, j, none⟩ = some u ∧ W.frozen? ⟨g, j, none⟩ = false := by
  obtain ⟨F, S, _, _, _, _, h2⟩ := H.item h
  simp [World.cell?, World.frozen?, h2]
  simpa using hj
theorem MemM.still (H : MemM M Z w0 W R (own d e v xs :: l)) (hd : 0 < d.sz := by decide) : ∃ A c, v = .slice A xs.length c ∧ xs.length ≤ c ∧ MemM M Z w0 W (row d A xs :: R) l := by
  obtain ⟨A, c, e1, h4, _⟩ := H.rd (.head _) hd
  refine ⟨A, c, e1, h4, H.freeze fun F S _ h => ?_⟩
  obtain ⟨A', c', e2, _, h5⟩ := Own.row hd h
  rw [e1] at e2
  injection e2 with e2
  subst e2
  have h6 : Row d W (fun k => (F k ∨ S k) ∨ False) A xs := h5.mono fun k hk => Or.inl hk
  exact h6
theorem MemM.cell (H : MemM M Z w0 W R l) {g n c : Nat} (h : own d e (.slice (some ⟨g, 0, none⟩) n c) xs ∈ l) {i j : Nat} {x : α} (hx : xs[i]? = some x) (hj : j < d.sz := by decide) :
    ∃ cs, d.K W (· < W.heap.size) x cs ∧ (∀ (j : Nat) u, cs[j]? = some u → W.cell? ⟨g, i * d.sz + j, none⟩ = some u) ∧ W.frozen? ⟨g, i * d.sz + j, none⟩ = false := by
  obtain ⟨F, S, _, h1, h2, h3⟩ := H.item h
  obtain ⟨cs, h4, h5, h6⟩ := Own.cell h3 hx hj
  exact ⟨cs, d.mono (fun k hk => hk.elim (h1 k) (h2 k)) h4, h5, h6⟩
theorem MemM.at_ (H : Mem w0 W R l) (h : Row d w0 (· < w0.heap.size) A xs) {i : Nat} {x : α} (hx : xs[i]? = some x) :
    ∃ ad cs, A = some ad ∧ ad.block < w0.heap.size ∧ d.K w0 (· < w0.heap.size) x cs ∧ ∀ (j : Nat) u, cs[j]? = some u → W.cell? (ad.add (i * d.sz + j)) = some u := by
  obtain ⟨ad, cs, e, h1, hK, hc⟩ := h.at_ hx
  exact ⟨ad, cs, e, h1, hK, fun j u hu => (H.below.cell (p := ad.add (i * d.sz + j)) (by rw [add_block]; exact h1)).trans (hc j u hu)⟩
theorem MemM.at1 (H : Mem w0 W R l) (h : Row d w0 (· < w0.heap.size) A xs) {i : Nat} {x : α} (hx : xs[i]? = some x) (hd : d.sz = 1 := by rfl) :
    ∃ ad u, A = some ad ∧ ad.block < w0.heap.size ∧ d.K w0 (· < w0.heap.size) x [u] ∧ W.cell? (ad.add i) = some u := by
  obtain ⟨ad, cs, e, h1, hK, hc⟩ := H.at_ h hx
  have hl := d.len hK
  match cs, hl, hK, hc with
  | [u], _, hK, hc => exact ⟨ad, u, e, h1, hK, by have := hc 0 u rfl; rwa [hd, Nat.mul_one, Nat.add_zero] at this⟩
  | [], hl, _, _ => rw [hd] at hl; cases hl
  | _ :: _ :: _, hl, _, _ => rw [hd] at hl; simp at hl
theorem MemM.int_at {k : IntKind} {ns : List Int} (H : Mem w0 W R l) (h : Row (int k) w0 (· < w0.heap.size) A ns) {i : Nat} {x : Int} (hx : ns[i]? = some x) : ∃ ad, A = some ad ∧ W.cell? (ad.add i) = some (.int k x) := by
  obtain ⟨ad, u, e, _, hK, hc⟩ := H.at1 h hx
  cases hK
  exact ⟨ad, e, hc⟩
theorem MemM.bool_at {ns : List Bool} (H : Mem w0 W R l) (h : Row bool w0 (· < w0.heap.size) A ns) {i : Nat} {x : Bool} (hx : ns[i]? = some x) : ∃ ad, A = some ad ∧ W.cell? (ad.add i) = some (.bool x) := by
  obtain ⟨ad, u, e, _, hK, hc⟩ := H.at1 h hx
  cases hK
  exact ⟨ad, e, hc⟩
theorem MemM.row_at {β : Type} {d : Rep β} {xss : List (List β)} (H : Mem w0 W R l) (h : Row (slice d) w0 (· < w0.heap.size) A xss) {i : Nat} {x : List β} (hx : xss[i]? = some x) : ∃ ad A' c, A = some ad ∧ W.cell? (ad.add i) = some (.slice A' x.length c) ∧ x.length ≤ c ∧ Row d w0 (· < w0.heap.size) A' x := by
  obtain ⟨ad, u, e, _, ⟨A', c, e1, hl, hr⟩, hc⟩ := H.at1 h hx
  cases e1
  exact ⟨ad, A', c, e, hc, hl, hr⟩
theorem MemM.cell1 (H : MemM M Z w0 W R l) {g n c : Nat} (h : own d e (.slice (some ⟨g, 0, none⟩) n c) xs ∈ l) {i : Nat} {x : α} (hx : xs[i]? = some x) (hd : d.sz = 1 := by rfl) : ∃ u, d.K W (· < W.heap.size) x [u] ∧ W.cell? ⟨g, i, none⟩ = some u ∧ W.frozen? ⟨g, i, none⟩ = false := by
  obtain ⟨cs, hK, hc, hf⟩ := H.cell h (j := 0) hx (by omega)
  have hl := d.len hK
  match cs, hl, hK, hc with
  | [u], _, hK, hc => exact ⟨u, hK, by have := hc 0 u rfl; rwa [hd, Nat.mul_one, Nat.add_zero] at this, by rwa [hd, Nat.mul_one, Nat.add_zero] at hf⟩
  | [], hl, _, _ => rw [hd] at hl; cases hl
  | _ :: _ :: _, hl, _, _ => rw [hd] at hl; simp at hl
theorem MemM.bool_cell (H : MemM M Z w0 W R l) {g n c : Nat} {ns : List Bool} (h : own bool e (.slice (some ⟨g, 0, none⟩) n c) ns ∈ l) {i : Nat} {x : Bool} (hx : ns[i]? = some x) : W.cell? ⟨g, i, none⟩ = some (.bool x) ∧ W.frozen? ⟨g, i, none⟩ = false := by
  obtain ⟨u, hK, h1, h2⟩ := H.cell1 h hx
  cases hK
  exact ⟨h1, h2⟩
theorem MemM.setF {g n c : Nat} (H : MemM M Z w0 W R (own d e (.slice (some ⟨g, 0, none⟩) n c) xs :: l)) {i j : Nat} {x x' : α} {u : Value} (hx : xs[i]? = some x) (hj : j < d.sz)
    (hK : ∀ W T cs, d.K W T x cs → d.K W T x' (cs.set j u)) : MemM M Z w0 (W.setCell ⟨g, i * d.sz + j, none⟩ u) R (own d e (.slice (some ⟨g, 0, none⟩) n c) (xs.set i x') :: l) := by
  obtain ⟨F, S, h1, h2, h3, h4, _, h5⟩ := H.open1
  obtain ⟨h6, h7⟩ := Own.set h1 h2 hx hj (hK W)
  exact h5 _ _ _ h7 (fun k hk => by cases hk; exact h1.1 _ rfl) (Own.mono (fun k hk => .inl hk) (fun k hk => .inl hk) h6)
end
theorem MemM.set1 {α : Type} {d : Rep α} {e : Nat} {M Z : Nat → Prop} {w0 W : World} {R l : List Asr} {xs : List α} {g n c : Nat} (H : MemM M Z w0 W R (own d e (.slice (some ⟨g, 0, none⟩) n c) xs :: l)) {i : Nat} (hi : i < xs.length) {x' : α} {u : Value} (hK : ∀ W T, d.K W T x' [u]) (hd : d.sz = 1 := by rfl) :
    MemM M Z w0 (W.setCell ⟨g, i, none⟩ u) R (own d e (.slice (some ⟨g, 0, none⟩) n c) (xs.set i x') :: l) := by
  have h := H.setF (i := i) (j := 0) (x' := x') (u := u) (List.getElem?_eq_getElem hi) (by omega) (fun W T cs hcs => by
    have hl := d.len hcs
    rw [hd] at hl
    match cs, hl with
    | [v], _ => exact hK W T)
  rwa [hd, Nat.mul_one, Nat.add_zero] at h
theorem MemM.setB {e : Nat} {M Z : Nat → Prop} {w0 W : World} {R l : List Asr} {xs : List Bool} {g n c : Nat} (H : MemM M Z w0 W R (own bool e (.slice (some ⟨g, 0, none⟩) n c) xs :: l)) {i : Nat} (hi : i < xs.length) (x : Bool) :
    MemM M Z w0 (W.setCell ⟨g, i, none⟩ (.bool x)) R (own bool e (.slice (some ⟨g, 0, none⟩) n c) (xs.set i x) :: l) := H.set1 hi (fun _ _ => rfl)
theorem setCells_far {g : Nat} : ∀ (vs : List Value) (o : Nat) {w : World} (k : Nat), k ≠ g → (w.setCells g o vs).heap[k]? = w.heap[k]?
  | [], _, _, _, _ => rfl
  | v :: r, o, w, k, hk => by rw [World.setCells, setCells_far r (o + 1) k hk]; exact Below.heap_setCell w ⟨g, o, none⟩ v k hk
theorem setCells_same (g : Nat) : ∀ (vs : List Value) (o : Nat) (w : World), (w.setCells g o vs).os = w.os ∧ (w.setCells g o vs).tape = w.tape ∧ (w.setCells g o vs).output = w.output ∧ (w.setCells g o vs).heap.size = w.heap.size
  | [], _, _ => ⟨rfl, rfl, rfl, rfl⟩
  | v :: r, o, w => by
    obtain ⟨h1, h2, h3, h4⟩ := setCells_same g r (o + 1) (w.setCell ⟨g, o, none⟩ v)
    rw [World.setCells]
    exact ⟨h1, h2, h3, by rw [h4]; simp [World.setCell]⟩
theorem block_set {w : World} {g : Nat} {cur : Array Value} {e : TypeId} (h : w.heap[g]? = some (.cells cur e (0, 0))) (o : Nat) (v : Value) : (w.setCell ⟨g, o, none⟩ v).heap[g]? = some (.cells (cur.setIfInBounds o v) e (0, 0)) := by
  have hl : g < w.heap.size := by
    rcases Nat.lt_or_ge g w.heap.size with h1 | h1
    · exact h1
    · rw [Array.getElem?_eq_none h1] at h; cases h
  simp only [World.setCell]
  rw [Array.getElem?_modify, if_pos rfl, h]
  rfl
theorem setCells_row {g : Nat} {e : TypeId} : ∀ (vs : List Value) (o : Nat) (w : World) (cur : Array Value), w.heap[g]? = some (.cells cur e (0, 0)) → o + vs.length ≤ cur.size →
    ∃ cur', (w.setCells g o vs).heap[g]? = some (.cells cur' e (0, 0)) ∧ cur'.size = cur.size ∧ cur'.toList = cur.toList.take o ++ vs ++ cur.toList.drop (o + vs.length)
  | [], o, w, cur, h, _ => ⟨cur, h, rfl, by simp⟩
  | v :: r, o, w, cur, h, hl => by
    simp only [List.length_cons] at hl
    obtain ⟨cur', h3, h4, h5⟩ := setCells_row r (o + 1) (w.setCell ⟨g, o, none⟩ v) _ (block_set h o v) (by simp; omega)
    refine ⟨cur', h3, by rw [h4]; simp, ?_⟩
    have ho : o < cur.toList.length := by rw [Array.length_toList]; omega
    rw [h5, Array.toList_setIfInBounds, List.take_set, List.drop_set_of_lt (by omega), List.length_cons, show o + 1 + r.length = o + (r.length + 1) by omega]
    congr 1
    rw [List.take_succ_eq_append_getElem ho, List.set_append_right _ _ (by rw [List.length_take]; omega), List.length_take, Nat.min_eq_left (Nat.le_of_lt ho), Nat.sub_self]
    simp
section
variable {P : Program} {ops : Array Oper} {rest : List Oper} {o : Oper} {a : Act} {Q : Exit → Act → World → Prop} {W : World}
theorem gate_dst {N : Tmp} (_hN : o.dst = some N) (h : wpList P ops Q (o :: rest) a W) : wpList P ops Q (o :: rest) a W := h
end
theorem reps_made {α : Type} {R : α → List Value → Prop} {size : Nat} {z : Value} {z0 : α} (hz : z.cells.size = size) (hs : 0 < size) (h : R z0 z.cells.toList) (m : Nat) : Reps R size (List.replicate m z0) (madeCells z.cells (m * size)).toList := by
  refine ⟨by simp [size_madeCells], fun j p hj => ?_⟩
  have hjm : j < m := by
    rcases Nat.lt_or_ge j m with h1 | h1
    · exact h1
    · rw [List.getElem?_eq_none (by simpa using h1)] at hj; cases hj
  obtain rfl : z0 = p := by rw [List.getElem?_replicate, if_pos hjm] at hj; injection hj
  have hle : j * size + size ≤ m * size := by rw [← Nat.succ_mul]; exact Nat.mul_le_mul_right _ hjm
  have e : ((madeCells z.cells (m * size)).toList.drop (j * size)).take size = z.cells.toList := by
    apply List.ext_getElem
    · simp [size_madeCells, hz]; omega
    · intro i h1 h2
      have hi : i < size := by rw [Array.length_toList, hz] at h2; exact h2
      have hmod : (j * size + i) % size = i := by rw [Nat.mul_comm, Nat.mul_add_mod, Nat.mod_eq_of_lt hi]
      rw [List.getElem_take, List.getElem_drop]
      simp [madeCells, hz, hmod, hi]
  rw [e]; exact h
section
variable {P : Program} {ops : Array Oper} {rest : List Oper} {o : Oper} {a : Act} {Q : Exit → Act → World → Prop} {α : Type} {d : Rep α} {e : TypeId} {M Z : Nat → Prop} {w0 W : World} {R l : List Asr} {v : Value} {xs : List α}
theorem own_grew {F S : Nat → Prop} {w1 : World} {v1 : Value} {ys : List α} {cells : List Value} (h1 : ∀ k, v.ownBlock = some k → S k) (hr : Reps (d.K W (fun k => F k ∨ (S k ∧ some k ≠ v.ownBlock))) d.sz ys cells)
    (hF : ∀ k, F k → ¬ S k) (hown : w1.ownsRow 0 e d.sz v1 ys.length cells) (hg : W.grownBy w1 v.ownBlock) (hat : v1.ownBlock = v.ownBlock ∨ ∃ b, v1.ownBlock = some b ∧ W.heap.size ≤ b) :
    Own d e w1 F (fun k => S k ∨ W.heap.size ≤ k) v1 ys := by
  refine ⟨fun k hk => ?_, cells, hown, hr.imp fun p c hp => ?_⟩
  · rcases hat with hat | ⟨b, hb, hle⟩
    · exact .inl (h1 k (hat ▸ hk))
    · rw [hb] at hk; injection hk with hk; subst hk; exact .inr hle
  · have h2 := d.bound hp
    have h3 := d.move (w' := w1) (fun k hk => hg.block k hk.2 (fun e => hk.1.elim (fun h => hF k h (h1 k e.symm)) (fun h => h.2 e))) h2
    refine d.mono (fun k hk => hk.1.elim .inl fun h => .inr ⟨.inl h.1, ?_⟩) h3
    rcases hat with hat | ⟨b, hb, hle⟩
    · rw [hat]; exact h.2
    · rw [hb]; intro he; injection he with he; have := hk.2; omega
theorem wp_append (H : MemM M Z w0 W R (own d e v xs :: l)) (hgd : o.guard = none) (s x : Operand) (t : TypeId) (z : Value) (bytes : Nat)
    (ho : o.op = .call { callee := .builtin .append, args := #[s, x], argTypes := #[t, t] }) (ht : P.underlying t = some (.slice e))
    (hinfo : (P.info? e).map (fun i => (i.zero, i.size, i.bytes)) = some (some z, d.sz, bytes)) (hz : z.cells.size = d.sz) (hs0 : 0 < d.sz) (hb0 : 0 < bytes)
    (p : α) (cs : List Value) (hs : a.eval s = v) (hx : a.eval x = .slice (some ⟨W.heap.size, 0, none⟩) 1 1)
    (hp : ∀ F : Nat → Prop, (∀ x ∈ R, x.P W F (fun _ => False)) → d.K W F p cs) (hl : (xs.length + 1) * bytes ≤ 140737488355328)
    (h : ∀ v1 W1, MemM M Z w0 W1 R (own d e v1 (xs ++ [p]) :: l) → wpList P ops Q rest (a.put o.dst v1) W1) :
    wpList P ops Q (o :: rest) a (W.alloc (.cells cs.toArray e)) := by
  obtain ⟨i0, hi, hzz⟩ := Option.map_eq_some_iff.1 hinfo
  simp only [Prod.mk.injEq] at hzz
  obtain ⟨hz0, hz1, hz2⟩ := hzz
  have hlen : xs.length + 1 ≤ 140737488355328 := Nat.le_trans (Nat.le_mul_of_pos_right _ hb0) hl
  obtain ⟨F, S, ⟨h1, inner, hown, hr⟩, h2, h3, h4, h5, h6⟩ := H.open1
  have hK := hp F h5
  have hcl := d.len hK
  refine wpList_append_own_at (W.alloc (.cells cs.toArray e)) hgd s x t ho 0 e i0 z d.sz bytes ht hi hz0 hz1 hz2 hz hs0 v xs.length inner hs (hown.alloc _) ⟨W.heap.size, 0, none⟩ 1 1 cs hx (by rw [hcl]; simp)
    (by simpa using World.news_of_block (cs := cs.toArray) (t := e) (fr := (0, 0)) (heap_alloc_new W (.cells cs.toArray e))) (d.one hK) (by simp only [maxLen]; omega) hl (Nat.zero_le _) ?_
  intro v1 w1 hown1 hg _ hat
  have hg1 := World.grownBy.trans (World.grownBy_alloc W (.cells cs.toArray e) v.ownBlock) hg
  have hat1 : v1.ownBlock = v.ownBlock ∨ ∃ b, v1.ownBlock = some b ∧ W.heap.size ≤ b := by
    rcases hat with hat | hat
    · exact .inl hat
    · exact .inr ⟨_, hat, by simp⟩
  have hr1 : Reps (d.K W (fun k => F k ∨ (S k ∧ some k ≠ v.ownBlock))) d.sz (xs ++ [p]) (inner ++ cs) := hr.app (Reps.single (d.mono (fun k hk => .inl hk) hK) hcl)
  exact h v1 w1 (h6 w1 _ v.ownBlock hg1 (fun k hk => h1 k hk) (own_grew h1 hr1 h2 (by rw [List.length_append]; exact hown1) hg1 hat1))
theorem wp_make (H : MemM M Z w0 W R l) (d : Rep α) (e : TypeId) (hgd : o.guard = none) (t : TypeId) (x y : Operand) (ho : o.op = .makeSlice t x y) (n : Nat) (hx : a.eval x = .int .i64 n) (hy : a.eval y = .int .i64 n)
    (ht : P.underlying t = some (.slice e)) (z : Value) (bytes : Nat) (hinfo : (P.info? e).map (fun i => (i.zero, i.size, i.bytes)) = some (some z, d.sz, bytes)) (hz : z.cells.size = d.sz) (hs0 : 0 < d.sz) (hb0 : 0 < bytes)
    (z0 : α) (hzero : ∀ S, d.K W S z0 z.cells.toList) (hl : n * bytes ≤ 281474976710656)
    (h : ∀ g W1, MemM M Z w0 W1 R (own d e (.slice (some ⟨g, 0, none⟩) n n) (List.replicate n z0) :: l) → wpList P ops Q rest (a.put o.dst (.slice (some ⟨g, 0, none⟩) n n)) W1) : wpList P ops Q (o :: rest) a W := by
  obtain ⟨i0, hi, hzz⟩ := Option.map_eq_some_iff.1 hinfo
  simp only [Prod.mk.injEq] at hzz
  obtain ⟨hz0, hz1, hz2⟩ := hzz
  have hm : n ≤ 281474976710656 := Nat.le_trans (Nat.le_mul_of_pos_right _ hb0) hl
  refine wpList_make_full W hgd x y t ho 0 e i0 z d.sz ht hi hz0 hz1 .i64 .i64 n n n hx hy rfl rfl (by rw [hz2, Nat.mul_comm]; exact hl) (by simp only [maxLen]; omega) (Nat.zero_le _) ?_
  intro w1 hown hg
  refine h _ _ (H.new hg ⟨fun k hk => ?_, _, by rw [List.length_replicate]; exact hown, ?_⟩)
  · have : W.heap.size = k := by simpa [Value.ownBlock] using hk
    omega
  · exact reps_made hz hs0 (d.step (w := W) (fun k _ hk => hg.block k hk (by simp)) (hzero _)) n
theorem wp_copy {g n c0 : Nat} (H : MemM M Z w0 W R (own d e (.slice (some ⟨g, 0, none⟩) n c0) xs :: l)) (hgd : o.guard = none) (s x : Operand) (t t' : TypeId)
    (ho : o.op = .call { callee := .builtin .copy, args := #[s, x], argTypes := #[t, t'] }) (ht : P.underlying t = some (.slice e)) (hinfo : (P.info? e).map (·.size) = some 1) (hd : d.sz = 1)
    (hflat : ∀ {W W' : World} {S S' : Nat → Prop} {x cs}, d.K W S x cs → d.K W' S' x cs)
    (ys : List α) (A : Option Addr) (c : Nat) (hs : a.eval s = .slice (some ⟨g, 0, none⟩) n c0) (hx : a.eval x = .slice A ys.length c) (hR : Row d W (· < W.heap.size) A ys)
    (h : ∀ W1, MemM M Z w0 W1 R (own d e (.slice (some ⟨g, 0, none⟩) n c0) (ys.take xs.length ++ xs.drop ys.length) :: l) → wpList P ops Q rest (a.put o.dst (.int .i64 ((min ys.length xs.length : Nat) : Int))) W1) : wpList P ops Q (o :: rest) a W := by
  have fin : ∀ w1, (Builtin.copy_ #[t, t'] o.type #[.slice (some ⟨g, 0, none⟩) n c0, .slice A ys.length c]).run P W = .ok (goInt ((min ys.length xs.length : Nat) : Int)) w1 → MemM M Z w0 w1 R (own d e (.slice (some ⟨g, 0, none⟩) n c0) (ys.take xs.length ++ xs.drop ys.length) :: l) → wpList P ops Q (o :: rest) a W := by
    intro w1 hr hm
    refine wpList_plain hgd fun K hK => ?_
    unfold Oper.wp execOp
    simp only [ho, resolve, invoke, builtin, Sem.run_bind, Sem.run_pure, Result.andThen_ok, List.map_toArray, List.map_cons, List.map_nil, hs, hx, hr]
    exact hK _ _ (h w1 hm)
  obtain ⟨F, S, ⟨h1, inner, hown, hr⟩, h2, h3, h4, h5, h6⟩ := H.open1
  have hn : n = xs.length := by
    rcases hown.2 with ⟨h0, _⟩ | ⟨g', cap, cur, h0, _⟩
    · cases h0
    · injection h0
  subst hn
  rcases Nat.eq_zero_or_pos (min ys.length xs.length) with h0 | hp
  · refine fin W ?_ ?_
    · rw [h0]; exact run_copy_none W t t' o.type e (some ⟨g, 0, none⟩) A xs.length c0 ys.length c ht hinfo h0
    · have : ys.take xs.length ++ xs.drop ys.length = xs := by
        rcases Nat.eq_zero_or_pos ys.length with h7 | h7
        · rw [List.eq_nil_of_length_eq_zero h7]; simp
        · have h8 : xs.length = 0 := by omega
          rw [List.eq_nil_of_length_eq_zero h8]; simp
      rw [this]; exact H
  · obtain ⟨ad, rfl, _, _, hc⟩ := hR.2 (by omega)
    rcases hown.2 with ⟨h0, _⟩ | ⟨g', cap, cur, h0, hb, hh, hnc, hcm, hcs, htake⟩
    · cases h0
    injection h0 with h0 _ hcap; injection h0 with h0; injection h0 with h0; subst h0; subst hcap
    rw [hd, Nat.mul_one] at hcs htake
    have hsrc : ∀ m, m ≤ ys.length → ∃ news, Reps (d.K W (fun k => F k ∨ (S k ∧ some k ≠ (Value.slice (some ⟨g, 0, none⟩) xs.length c0).ownBlock))) d.sz (ys.take m) news ∧ ∀ (j : Nat) u, news[j]? = some u → W.cell? (ad.add j) = some u := by
      intro m
      induction m with
      | zero => exact fun _ => ⟨[], Reps.none _ _, by simp⟩
      | succ m ih =>
        intro hm
        obtain ⟨news, k1, k2⟩ := ih (by omega)
        have hy : ys[m]? = some ys[m] := List.getElem?_eq_getElem (by omega)
        obtain ⟨cs, hK, hcc⟩ := hc m _ hy
        refine ⟨news ++ cs, ?_, fun j u hu => ?_⟩
        · rw [List.take_add_one, hy]
          exact k1.app (Reps.single (hflat hK) (d.len hK))
        · have hl2 : news.length = m * d.sz := by rw [k1.1, List.length_take, Nat.min_eq_left (by omega)]
          rcases Nat.lt_or_ge j news.length with hj | hj
          · rw [List.getElem?_append_left hj] at hu; exact k2 j u hu
          · rw [List.getElem?_append_right hj] at hu
            have := hcc _ u hu
            rwa [show m * d.sz + (j - news.length) = j by omega] at this
    obtain ⟨news, k1, k2⟩ := hsrc (min ys.length xs.length) (Nat.min_le_left _ _)
    have hkl : news.length = min ys.length xs.length := by rw [k1.1, hd, Nat.mul_one, List.length_take, Nat.min_eq_left (Nat.min_le_left _ _)]
    have hone : ∀ u ∈ news, u.oneCell' = true := by
      intro u hu
      obtain ⟨q, hq, rfl⟩ := List.mem_iff_getElem.1 hu
      have hql : q < (ys.take (min ys.length xs.length)).length := by rw [List.length_take]; omega
      have h9 := k1.2 q _ (List.getElem?_eq_getElem hql)
      refine d.one h9 _ ?_
      rw [hd, Nat.mul_one, List.mem_iff_getElem?]
      exact ⟨0, by rw [List.getElem?_take, if_pos (by omega), List.getElem?_drop, Nat.add_zero, List.getElem?_eq_getElem hq]⟩
    have hr1 := run_copy_cells (P := P) W t t' o.type e g 0 xs.length c0 ad ys.length c news ht hinfo (by rw [hkl]) k2
      (fun j hj => by simp only [World.cell?, hh]; simp; omega) (fun j _ => by simp [World.frozen?, hh]) hone
    obtain ⟨cur', k3, k4, k5⟩ := setCells_row news 0 W cur hh (by rw [hkl]; omega)
    obtain ⟨s1, s2, s3, s4⟩ := setCells_same g news 0 W
    refine fin _ (by rw [hr1, hkl]) ?_
    have hg : W.grownBy (W.setCells g 0 news) (some g) := ⟨s1, s2, s3, by rw [s4]; exact Nat.le_refl _, fun k _ hk => setCells_far _ _ k (fun he => hk (by rw [he]))⟩
    refine h6 _ _ (some g) hg (fun k hk => by cases hk; exact h1 _ rfl) ?_
    have hlen : (ys.take xs.length ++ xs.drop ys.length).length = xs.length := by rw [List.length_append, List.length_take, List.length_drop]; omega
    refine ⟨fun k hk => .inl (h1 k hk), cur'.toList.take xs.length, ⟨by rw [hlen, hd, List.length_take, Nat.mul_one, show cur'.toList.length = c0 by rw [Array.length_toList, k4, hcs]]; exact Nat.min_eq_left hnc, .inr ⟨g, c0, cur', by rw [hlen], Nat.zero_le _, k3, by rw [hlen]; exact hnc, hcm, by rw [k4, hcs, hd, Nat.mul_one], by rw [hlen, hd, Nat.mul_one]⟩⟩, ?_⟩
    have hm : ∀ k, k < W.heap.size → k ≠ g → (W.setCells g 0 news).heap[k]? = W.heap[k]? := fun k hk hne => hg.block k hk (fun e => hne (by injection e))
    have e1 : cur'.toList.take xs.length = news ++ inner.drop (min ys.length xs.length) := by
      rw [k5, List.take_zero, List.nil_append, hkl, Nat.zero_add, List.take_append, hkl, List.take_of_length_le (by rw [hkl]; omega)]
      congr 1
      rw [← htake, List.drop_take]
    have e2 : ys.take xs.length ++ xs.drop ys.length = ys.take (min ys.length xs.length) ++ xs.drop (min ys.length xs.length) := by
      rcases Nat.le_total ys.length xs.length with h7 | h7
      · rw [Nat.min_eq_left h7, List.take_of_length_le h7, List.take_length]
      · rw [Nat.min_eq_right h7, List.drop_eq_nil_of_le h7, List.drop_length]
    rw [e1, e2]
    have hdrop : Reps (d.K W (fun k => F k ∨ (S k ∧ some k ≠ (Value.slice (some ⟨g, 0, none⟩) xs.length c0).ownBlock))) d.sz (xs.drop (min ys.length xs.length)) (inner.drop (min ys.length xs.length)) := by
      refine ⟨by rw [List.length_drop, hr.1, hd, Nat.mul_one, List.length_drop, Nat.mul_one], fun j p hp => ?_⟩
      rw [List.getElem?_drop] at hp
      have h9 := hr.2 _ p hp
      rw [hd, Nat.mul_one] at h9 ⊢
      rw [List.drop_drop]
      exact h9
    refine (k1.app hdrop).imp fun p q hp => ?_
    refine d.mono (fun k hk => hk.elim .inl fun hk => .inr ⟨.inl hk.1, hk.2⟩) (d.step (fun k hk hlt => hm k hlt ?_) hp)
    rintro rfl
    exact hk.elim (fun hk => h2 _ hk (h1 _ rfl)) (fun hk => hk.2 rfl)
theorem MemM.lit (H : MemM M Z w0 W R l) (d : Rep α) (e : TypeId) (xs : List α) (cs : List Value) (hK : ∀ F : Nat → Prop, (∀ x ∈ R, x.P W F (fun _ => False)) → Reps (d.K W F) d.sz xs cs) (hm : xs.length ≤ maxLen) :
    MemM M Z w0 (W.alloc (.cells cs.toArray e)) R (own d e (.slice (some ⟨W.heap.size, 0, none⟩) xs.length xs.length) xs :: l) := by
  have hg := World.grownBy_alloc W (.cells cs.toArray e) none
  obtain ⟨hB, F, S, h1, h2, h3, h4, h5, h6, h7⟩ := H
  have hm1 : ∀ k, k < W.heap.size → (W.alloc (.cells cs.toArray e)).heap[k]? = W.heap[k]? := fun k hk => hg.block k hk (by simp)
  have hsz : W.heap.size < (W.alloc (.cells cs.toArray e)).heap.size := by simp
  refine ⟨⟨hB.1.grown hg (by simp), hB.2⟩, F, fun k => S k ∨ k = W.heap.size, h1, fun k h => h.elim (h2 k) (fun h => .inr (by have := hB.1.size; omega)), fun k h h' => h'.elim (h3 k h) (fun e => by have := h4 k h; omega), fun k h => Nat.lt_of_lt_of_le (h4 k h) hg.size, fun k h => h.elim (fun h => Nat.lt_of_lt_of_le (h5 k h) hg.size) (fun h => by omega), fun x hx => x.step (fun k _ hk => hm1 k hk) (h6 x hx), fun k => k = W.heap.size, S, fun k h => .inr h, fun k h => .inl h, fun k h h' => by have := h5 k h'; omega, ?_, h7.step (fun k _ hk => hm1 k hk)⟩
  have hR := hK F h6
  have h8 := World.ownsRow_lit (base := 0) (e := e) (size := d.sz) W cs.toArray xs.length (Nat.zero_le _) hm (by simpa using hR.1)
  refine ⟨fun k hk => ?_, cs, by simpa using h8, hR.imp fun p c hp => d.mono (fun k hk => .inl hk) (d.step (fun k _ hk => hm1 k hk) hp)⟩
  have : W.heap.size = k := by simpa [Value.ownBlock] using hk
  omega
theorem wp_event {v1 : Value} {W1 : World} (hgd : o.guard = none) (hrun : (execOp a.eval o).run P W = .ok (.value v1) W1) (h : wpList P ops Q rest (a.put o.dst v1) W1) : wpList P ops Q (o :: rest) a W := by
  refine wpList_plain hgd fun K hK => ?_
  unfold Oper.wp
  rw [hrun]
  exact hK _ _ h
theorem wp_lit (H : MemM M Z w0 W R l) (d : Rep α) (e : TypeId) (xs : List α) (cs : List Value) (hgd : o.guard = none)
    (hrun : (execOp a.eval o).run P W = .ok (.value (.slice (some ⟨W.heap.size, 0, none⟩) xs.length xs.length)) (W.alloc (.cells cs.toArray e)))
    (hK : ∀ F : Nat → Prop, (∀ x ∈ R, x.P W F (fun _ => False)) → Reps (d.K W F) d.sz xs cs) (hm : xs.length ≤ maxLen)
    (h : ∀ g W1, MemM M Z w0 W1 R (own d e (.slice (some ⟨g, 0, none⟩) xs.length xs.length) xs :: l) → wpList P ops Q rest (a.put o.dst (.slice (some ⟨g, 0, none⟩) xs.length xs.length)) W1) : wpList P ops Q (o :: rest) a W :=
  wp_event hgd hrun (h _ _ (H.lit d e xs cs hK hm))
theorem MemM.box (H : MemM M Z w0 W R l) (t : TypeId) (cs : List Value) : MemM M Z w0 (W.alloc (.cells cs.toArray t)) R (box W.heap.size t cs :: l) :=
  H.new (World.grownBy_alloc W _ none) ⟨Nat.le_refl _, heap_alloc_new W _⟩
end
abbrev Cell := {v : Value // v.oneCell' = true}
def nilCell : Cell := ⟨.slice none 0 0, rfl⟩
def slCell (A : Option Addr) (n c : Nat) : Cell := ⟨.slice A n c, rfl⟩
section
variable {α : Type} {d : Rep α} {e e2 : TypeId} {M Z : Nat → Prop} {w0 W : World} {R l : List Asr} {v : Value} {xs : List α}
theorem MemM.nilItem (H : MemM M Z w0 W R l) (d : Rep α) (e : TypeId) : MemM M Z w0 W R (own d e (.slice none 0 0) [] :: l) := by
  obtain ⟨hB, F, S, h1, h2, h3, h4, h5, h6, h7⟩ := H
  exact ⟨hB, F, S, h1, h2, h3, h4, h5, h6, fun _ => False, S, fun _ h => h.elim, fun _ h => h, fun _ h => h.elim, Own.nil, h7⟩
theorem Own.one {F S : Nat → Prop} (h : Own d e W F S v xs) : ∃ A c, v = .slice A xs.length c := by
  obtain ⟨_, cells, ho, _⟩ := h
  rcases ho.2 with ⟨rfl, h0⟩ | ⟨g, cap, cur, rfl, _⟩
  · exact ⟨none, 0, by rw [h0]⟩
  · exact ⟨_, cap, rfl⟩
theorem MemM.one (H : MemM M Z w0 W R l) (h : own d e v xs ∈ l) : ∃ A c, v = .slice A xs.length c := by
  obtain ⟨F, S, _, _, _, h3⟩ := H.item h
  exact Own.one h3
def rowsOf (d : Rep α) (e : TypeId) (vs : List Cell) (xss : List (List α)) : List Asr := List.zipWith (fun v xs => own d e v.1 xs) vs xss
theorem rowsOf_split (d : Rep α) (e : TypeId) {vs : List Cell} {xss : List (List α)} (h : vs.length = xss.length) {k : Nat} {v : Cell} {xs : List α} (hv : vs[k]? = some v) (hx : xss[k]? = some xs) :
    ∃ l1 l2, rowsOf d e vs xss = l1 ++ own d e v.1 xs :: l2 ∧ ∀ v' xs', rowsOf d e (vs.set k v') (xss.set k xs') = l1 ++ own d e v'.1 xs' :: l2 := by
  have hk : k < vs.length := by
    rcases Nat.lt_or_ge k vs.length with h1 | h1
    · exact h1
    · rw [List.getElem?_eq_none h1] at hv; cases hv
  have hk2 : k < xss.length := by omega
  have e1 : vs = vs.take k ++ v :: vs.drop (k + 1) := by
    rw [List.getElem?_eq_getElem hk] at hv; injection hv with hv
    rw [← hv, List.getElem_cons_drop, List.take_append_drop]
  have e2 : xss = xss.take k ++ xs :: xss.drop (k + 1) := by
    rw [List.getElem?_eq_getElem hk2] at hx; injection hx with hx
    rw [← hx, List.getElem_cons_drop, List.take_append_drop]
  have hl1 : (vs.take k).length = k := by rw [List.length_take]; omega
  have hl2 : (xss.take k).length = k := by rw [List.length_take]; omega
  refine ⟨rowsOf d e (vs.take k) (xss.take k), rowsOf d e (vs.drop (k + 1)) (xss.drop (k + 1)), ?_, fun v' xs' => ?_⟩
  · conv => lhs; rw [e1, e2]
    rw [rowsOf, List.zipWith_append (by rw [hl1, hl2])]; rfl
  · conv => lhs; rw [e1, e2]
    rw [List.set_append_right _ _ (by omega), List.set_append_right _ _ (by omega), hl1, hl2, Nat.sub_self, List.set_cons_zero, List.set_cons_zero, rowsOf, List.zipWith_append (by rw [hl1, hl2])]; rfl
theorem MemM.nilRows (H : MemM M Z w0 W R l) (d : Rep α) (e : TypeId) : ∀ n, MemM M Z w0 W R (rowsOf d e (List.replicate n nilCell) (List.replicate n []) ++ l)
  | 0 => H
  | n + 1 => by
    have h := (MemM.nilRows H d e n).nilItem d e
    exact h
theorem Star.nest {w : World} {F : Nat → Prop} : ∀ {vs : List Cell} {xss : List (List α)} {S : Nat → Prop}, vs.length = xss.length → Star (rowsOf d e vs xss ++ l) w F S →
    ∃ S1 S2 : Nat → Prop, (∀ k, S1 k → S k) ∧ (∀ k, S2 k → S k) ∧ (∀ k, S1 k → ¬ S2 k) ∧ (∀ (i : Nat) v xs, vs[i]? = some v → xss[i]? = some xs → Own d e w F S1 v.1 xs) ∧ Star l w F S2
  | [], [], S, _, h => ⟨fun _ => False, S, fun _ h => h.elim, fun _ h => h, fun _ h => h.elim, fun i v xs hv => by simp at hv, h⟩
  | v :: vs, xs :: xss, S, hl, ⟨T1, T2, h1, h2, h3, h4, h5⟩ => by
    obtain ⟨S1, S2, k1, k2, k3, k4, k5⟩ := Star.nest (vs := vs) (xss := xss) (by simpa using hl) h5
    refine ⟨fun k => T1 k ∨ S1 k, S2, fun k h => h.elim (h1 k) (fun h => h2 k (k1 k h)), fun k h => h2 k (k2 k h), fun k h h' => h.elim (fun h => h3 k h (k2 k h')) (fun h => k3 k h h'), fun i v' xs' hv hx => ?_, k5⟩
    cases i with
    | zero =>
      simp at hv hx
      subst hv; subst hx
      exact Own.mono (fun k hk => .inl hk) (fun k hk => .inl hk) h4
    | succ i => exact Own.mono (fun k hk => .inl hk) (fun k hk => .inr hk) (k4 i v' xs' (by simpa using hv) (by simpa using hx))
  | [], _ :: _, _, hl, _ => by simp at hl
  | _ :: _, [], _, hl, _ => by simp at hl
theorem MemM.nest {vs : List Cell} {xss : List (List α)} (hd : 0 < d.sz) (hl : vs.length = xss.length) (H : MemM M Z w0 W R (own raw e2 v vs :: (rowsOf d e vs xss ++ l))) : MemM M Z w0 W R (own (slice d) e2 v xss :: l) := by
  obtain ⟨hB, F, S, h1, h2, h3, h4, h5, h6, S1, S2, k1, k2, k3, ⟨k4, cells, ho, hr⟩, k5⟩ := H
  obtain ⟨T1, T2, j1, j2, j3, j4, j5⟩ := Star.nest hl k5
  refine ⟨hB, F, S, h1, h2, h3, h4, h5, h6, fun k => S1 k ∨ T1 k, T2, fun k h => h.elim (k1 k) (fun h => k2 k (j1 k h)), fun k h => k2 k (j2 k h), fun k h h' => h.elim (fun h => k3 k h (j2 k h')) (fun h => j3 k h h'), ⟨fun k hk => .inl (k4 k hk), cells, by rw [← hl]; exact ho, ?_⟩, j5⟩
  refine ⟨by rw [← hl]; exact hr.1, fun i xs hx => ?_⟩
  have hi : i < vs.length := by
    rcases Nat.lt_or_ge i vs.length with h1 | h1
    · exact h1
    · rw [List.getElem?_eq_none (by omega)] at hx; cases hx
  have hv : vs[i]? = some vs[i] := List.getElem?_eq_getElem hi
  have h9 := hr.2 i _ hv
  obtain ⟨A, c, e1, e2', hrow⟩ := Own.row hd (j4 i _ xs hv hx)
  refine ⟨A, c, ?_, e2', hrow.mono fun k hk => hk.elim .inl fun hk => .inr ⟨.inr hk, fun e3 => ?_⟩⟩
  · rw [← e1]; exact h9
  · exact k3 k (k4 k e3.symm) (j1 k hk)
end
end Go.Proofs.Ytcagkdgpoijkoaa.Mq
end
section
namespace Go.Proofs.Ytcagkdgpoijkoaa.Bridge
open Go.RowKit Go.Proofs.Ytcagkdgpoijkoaa.Mq
open Go.Proofs.YtcagkdgpoijkoaaW.PrintWords (Kd)
set_option linter.unusedVariables false
section
variable {α β : Type} {d : Kd α} {r : Rep β} {w w0 W : World} {A : Option Addr} {n : Nat} {xs : List α} {ys : List β} {S F : Nat → Prop} {v : Value} {e : Nat} {l R : List Asr}
theorem row_of_C (f : α → β) (hs : d.sz = r.sz) (h0 : 0 < r.sz) (hK : ∀ x cs, d.K w x cs → r.K w (· < w.heap.size) (f x) cs) (h : Kd.C d w A n xs) : Row r w (· < w.heap.size) A (xs.map f) := by
  obtain ⟨h1, h2, h3⟩ := h; refine ⟨by rw [List.length_map, h1]; exact h2, fun hp => ?_⟩; rw [List.length_map, h1] at hp; obtain ⟨ad, rfl, h4⟩ := h3 hp
  have hlt : ad.block < w.heap.size := by
    obtain ⟨c, hc, _, hcc⟩ := h4 0 _ (List.getElem?_eq_getElem (by omega)); have h5 := hcc 0 _ (List.getElem?_eq_getElem (by omega)); have h6 := World.block_lt_of_cell? w _ h5; rwa [add_block] at h6
  refine ⟨ad, rfl, hlt, hlt, fun i y hy => ?_⟩; rw [List.getElem?_map] at hy
  cases hx : xs[i]? with
  | none => rw [hx] at hy; cases hy
  | some x =>
    rw [hx] at hy; injection hy with hy; subst hy; obtain ⟨c, hc, hR, hcc⟩ := h4 i x hx; exact ⟨c, hK x c hR, fun j u hu => by rw [← hs]; exact hcc j u hu⟩
theorem C_of_row (f : β → α) (hs : d.sz = r.sz) (hK : ∀ y cs, r.K w S y cs → d.K w (f y) cs) (h : Row r w S A ys) : Kd.C d w A ys.length (ys.map f) := by
  refine ⟨List.length_map _, h.len, fun hp => ?_⟩; obtain ⟨ad, rfl, h1, h2, h3⟩ := h.2 hp; refine ⟨ad, rfl, fun j p hj => ?_⟩; rw [List.getElem?_map] at hj
  cases hy : ys[j]? with
  | none => rw [hy] at hj; cases hj
  | some y =>
    rw [hy] at hj; injection hj with hj; subst hj; obtain ⟨cs, hK', hc⟩ := h3 j y hy; exact ⟨cs, by rw [hs]; exact r.len hK', hK _ _ hK', fun i u hu => by rw [hs]; exact hc i u hu⟩
theorem C_len {k : Nat} (hk : k = n) (h : Kd.C d w A n xs) : Kd.C d w A k xs := hk ▸ h
theorem V_of_own (f : β → α) (e' : Nat) (b : Nat) (hs : d.sz = r.sz) (h0 : 0 < r.sz) (hK : ∀ w S y cs, r.K w S y cs → d.K w (f y) cs) (H : Mem w W [] (own r e v ys :: l)) : Kd.V d e' W b (fun k_ => w.heap.size ≤ k_) v (ys.map f) := by
  obtain ⟨hB, F, S, h1, h2, h3, h4, h5, h6, S1, S2, k1, k2, k3, k4, k5⟩ := H; obtain ⟨A, c, rfl, hc, hr⟩ := Own.row h0 k4; refine ⟨A, c, by rw [List.length_map], by rw [List.length_map]; exact hc, fun W' hW => ?_⟩; refine C_len (List.length_map _) (C_of_row f hs (fun y cs => hK _ _ y cs) (Row.step (w' := W') (fun k hk hlt => hW k ?_ hlt) hr)); rcases hk with hk | hk
  · exact (h1 k hk).elim (fun h => h.elim) (fun h => h.elim (fun h => h.elim) id)
  · exact (h2 k (k1 k hk)).elim (fun h => h.elim) id
theorem ownsRow_base {b b' : Nat} {size : Nat} {cs : List Value} (h : W.ownsRow b e size v n cs) (hb : ∀ k, v.ownBlock = some k → b' ≤ k) : W.ownsRow b' e size v n cs := by
  obtain ⟨h1, h2⟩ := h; refine ⟨h1, ?_⟩; rcases h2 with h2 | ⟨g, cap, cur, rfl, hg, r⟩
  · exact .inl h2
  · exact .inr ⟨g, cap, cur, rfl, hb g (by simp [Value.ownBlock]), r⟩
theorem R_of_own (f : β → α) (hs : d.sz = r.sz) (hK : ∀ w S y cs, r.K w S y cs → ∀ W b ok, d.M W b ok (f y) cs) (H : Mem w W [] (own r e v ys :: l)) : Kd.R d e W w.heap.size (fun _ => True) v (ys.map f) := by
  obtain ⟨hB, F, S, h1, h2, h3, h4, h5, h6, S1, S2, k1, k2, k3, ⟨k4, cells, ho, hr⟩, k5⟩ := H; refine ⟨fun _ _ => trivial, cells, ?_, ?_⟩
  · rw [List.length_map, hs]
    exact ownsRow_base ho (fun k hk => (h2 k (k1 k (k4 k hk))).elim (fun h => h.elim) id)
  · refine ⟨by rw [List.length_map, hs]; exact hr.1, fun j p hj => ?_⟩
    rw [List.getElem?_map] at hj
    cases hy : ys[j]? with
    | none => rw [hy] at hj; cases hj
    | some y =>
      rw [hy] at hj; injection hj with hj; subst hj; rw [hs]; exact hK _ _ _ _ (hr.2 j y hy) _ _ _
theorem own_of_R (f : α → β) (hs : d.sz = r.sz) (hK : ∀ W b ok x cs, d.M W b ok x cs → ∀ S, r.K W S (f x) cs) (h : Kd.R d e W w0.heap.size (fun _ => True) v xs) (hB : Below w0.heap.size w0 W) : Mem w0 W [] [own r e v (xs.map f)] := by
  obtain ⟨_, cells, ho, hr⟩ := h; refine ⟨⟨⟨hB.os, hB.tape, hB.output, hB.size, fun k hk _ => hB.block k hk⟩, fun _ h => h.elim⟩, fun _ => False, fun k => w0.heap.size ≤ k ∧ k < W.heap.size, fun _ h => h.elim, fun _ h => .inr h.1, fun _ h => h.elim, fun _ h => h.elim, fun _ h => h.2, (fun a h => by cases h), ?_⟩; refine ⟨fun k => w0.heap.size ≤ k ∧ k < W.heap.size, fun _ => False, fun _ h => h, fun _ h => h.elim, fun _ _ h => h, ⟨fun k hk => ho.lt k hk, cells, ?_, ?_⟩, trivial⟩
  · rw [List.length_map, ← hs]
    exact ownsRow_base ho (fun _ _ => Nat.zero_le _)
  · refine ⟨by rw [List.length_map, ← hs]; exact hr.1, fun j p hj => ?_⟩
    rw [List.getElem?_map] at hj
    cases hx : xs[j]? with
    | none => rw [hx] at hj; cases hj
    | some x =>
      rw [hx] at hj; injection hj with hj; subst hj; rw [← hs]; exact hK _ _ _ _ _ (hr.2 j x hx) _
theorem K_slice (f : α → β) (hs : d.sz = r.sz) (h0 : 0 < r.sz) (hK : ∀ x cs, d.K w x cs → r.K w (· < w.heap.size) (f x) cs) (x : List α) (cs : List Value) (h : (Kd.slice e d).K w x cs) : (slice r).K w (· < w.heap.size) (x.map f) cs := by
  obtain ⟨A, c, rfl, hl, hr⟩ := h; exact ⟨A, c, by rw [List.length_map], by rw [List.length_map]; exact hl, row_of_C f hs h0 hK hr⟩
theorem K_slice_back (f : β → α) (hs : d.sz = r.sz) (hK : ∀ y cs, r.K w S y cs → d.K w (f y) cs) (y : List β) (cs : List Value) (h : (slice r).K w S y cs) : (Kd.slice e d).K w (y.map f) cs := by
  obtain ⟨A, c, rfl, hl, hr⟩ := h; exact ⟨A, c, by rw [List.length_map], by rw [List.length_map]; exact hl, C_len (List.length_map _) (C_of_row f hs hK hr)⟩
end
section
variable {w : World} {A : Option Addr} {S : Nat → Prop}
theorem rows_int {k : IntKind} {e n : Nat} {g : List (List Int)} (h : Kd.C (Kd.slice e (Kd.int k)) w A n g) : Row (slice (int k)) w (· < w.heap.size) A g := by
  have := row_of_C (r := slice (int k)) (fun x : List Int => x) rfl (show 0 < 1 by decide) (fun x cs hx => by simpa using K_slice (r := int k) (fun x : Int => x) rfl (show 0 < 1 by decide) (fun x cs h => h) x cs hx) h; simpa using this
theorem row_bool {n : Nat} {g : List Bool} (h : Kd.C Kd.bool w A n g) : Row bool w (· < w.heap.size) A g := by
  have := row_of_C (r := bool) (fun x : Bool => x) rfl (by decide) (fun x cs hx => hx) h; simpa using this
end
end Go.Proofs.Ytcagkdgpoijkoaa.Bridge
end
section
/- Plain: graphs, walks and steps (forward), without the program. -/
namespace Go.Proofs.Ytcagkdgpoijkoaa.FwP
set_option linter.unusedVariables false
set_option linter.unusedSimpArgs false
def hit (to_ : List Bool) (x : Int) : Bool := decide (0 ≤ x) && (decide (x < to_.length) && to_.getD x.toNat false)
def stepB (g : List (List Int)) (to_ : List Bool) : List Bool := g.map fun next => next.any (hit to_)
def stepN (g : List (List Int)) (to_ : List Bool) (k : Nat) : List Bool := stepB (g.take k) to_ ++ List.replicate (g.length - k) false
theorem stepN_zero (g : List (List Int)) (to_ : List Bool) : stepN g to_ 0 = List.replicate g.length false := by simp [stepN, stepB]
theorem stepN_all (g : List (List Int)) (to_ : List Bool) : stepN g to_ g.length = stepB g to_ := by simp [stepN]
theorem stepN_len (g : List (List Int)) (to_ : List Bool) (k : Nat) (h : k ≤ g.length) : (stepN g to_ k).length = g.length := by simp [stepN, stepB]; omega
theorem stepB_len (g : List (List Int)) (to_ : List Bool) : (stepB g to_).length = g.length := by simp [stepB]
theorem stepN_get (g : List (List Int)) (to_ : List Bool) (k : Nat) (h : k < g.length) : (stepN g to_ k)[k]? = some false := by
  (have hl : (stepB (g.take k) to_).length = k := by simp [stepB]; omega); rw [stepN, List.getElem?_append_right (by omega), hl, Nat.sub_self, List.getElem?_replicate, if_pos (by omega)]
theorem stepN_succ (g : List (List Int)) (to_ : List Bool) (k : Nat) (r : List Int) (hr : g[k]? = some r) : (stepN g to_ k).set k (r.any (hit to_)) = stepN g to_ (k + 1) := by
  have h : k < g.length := by
    rcases Nat.lt_or_ge k g.length with h1 | h1
    · exact h1
    · rw [List.getElem?_eq_none h1] at hr; cases hr
  (have hl : (stepB (g.take k) to_).length = k := by simp [stepB]; omega); rw [stepN, List.set_append_right _ _ (by omega), hl, Nat.sub_self, show g.length - k = (g.length - (k + 1)) + 1 by omega, List.replicate_succ, List.set_cons_zero, stepN, List.take_add_one, hr]; simp [stepB]
theorem set_same {α : Type} {l : List α} {k : Nat} {x : α} (h : l[k]? = some x) : l.set k x = l := by
  apply List.ext_getElem?; intro i; by_cases e : k = i
  · subst e
    rw [List.getElem?_set_self (by rcases Nat.lt_or_ge k l.length with h1 | h1; exact h1; rw [List.getElem?_eq_none h1] at h; cases h), h]
  · rw [List.getElem?_set_ne e]
theorem any_snoc {α : Type} (l : List α) (p : α → Bool) (j : Nat) (x : α) (hx : l[j]? = some x) : (l.take (j + 1)).any p = ((l.take j).any p || p x) := by
  rw [List.take_add_one, hx]; simp
theorem hit_in {to_ : List Bool} {x : Int} {y : Bool} (h0 : 0 ≤ x) (h1 : x < to_.length) (hy : to_[x.toNat]? = some y) : hit to_ x = y := by
  unfold hit; rw [decide_eq_true h0, decide_eq_true h1, List.getD_eq_getElem?_getD, hy]; rfl
theorem hit_out {to_ : List Bool} {x : Int} (h : ¬ (0 ≤ x ∧ x < to_.length)) : hit to_ x = false := by
  unfold hit; by_cases h0 : 0 ≤ x
  · have : ¬ x < to_.length := fun h1 => h ⟨h0, h1⟩
    simp [this]
  · simp [h0]
def stepI (g : List (List Int)) (to_ : List Bool) (k : Nat) (r : List Int) (j : Nat) : List Bool := (stepN g to_ k).set k ((r.take j).any (hit to_))
theorem stepI_zero (g : List (List Int)) (to_ : List Bool) (k : Nat) (r : List Int) (h : k < g.length) : stepI g to_ k r 0 = stepN g to_ k := by
  rw [stepI, List.take_zero, List.any_nil, set_same (stepN_get g to_ k h)]
theorem stepI_len (g : List (List Int)) (to_ : List Bool) (k : Nat) (r : List Int) (j : Nat) (h : k < g.length) : (stepI g to_ k r j).length = g.length := by
  rw [stepI, List.length_set, stepN_len g to_ k (by omega)]
theorem stepI_get (g : List (List Int)) (to_ : List Bool) (k : Nat) (r : List Int) (j : Nat) (h : k < g.length) : (stepI g to_ k r j)[k]? = some ((r.take j).any (hit to_)) := by
  rw [stepI, List.getElem?_set_self (by rw [stepN_len g to_ k (by omega)]; exact h)]
theorem stepI_set (g : List (List Int)) (to_ : List Bool) (k : Nat) (r : List Int) (j : Nat) (x : Int) (hx : r[j]? = some x) (c : Bool) (hc : c = ((r.take j).any (hit to_) || hit to_ x)) : (stepI g to_ k r j).set k c = stepI g to_ k r (j + 1) := by
  rw [stepI, stepI, List.set_set, any_snoc r (hit to_) j x hx, hc]
theorem stepI_all (g : List (List Int)) (to_ : List Bool) (k : Nat) (r : List Int) (hr : g[k]? = some r) : stepI g to_ k r r.length = stepN g to_ (k + 1) := by
  rw [stepI, List.take_length, stepN_succ g to_ k r hr]
def itB (g : List (List Int)) : Nat → List Bool → List Bool
  | 0, b => b
  | n + 1, b => stepB g (itB g n b)
theorem itB_len (g : List (List Int)) (b : List Bool) (h : b.length = g.length) : ∀ n, (itB g n b).length = g.length
  | 0 => h
  | n + 1 => stepB_len g _
def loopsB (g : List (List Int)) : List Bool := itB g g.length (List.replicate g.length true)
def trues (n k : Nat) : List Bool := List.replicate k true ++ List.replicate (n - k) false
theorem trues_zero (n : Nat) : trues n 0 = List.replicate n false := by simp [trues]
theorem trues_all (n : Nat) : trues n n = List.replicate n true := by simp [trues]
theorem trues_len (n k : Nat) (h : k ≤ n) : (trues n k).length = n := by simp [trues]; omega
theorem trues_get (n k : Nat) (h : k < n) : (trues n k)[k]? = some false := by
  rw [trues, List.getElem?_append_right (by simp), List.length_replicate, Nat.sub_self, List.getElem?_replicate, if_pos (by omega)]
theorem trues_succ (n k : Nat) (h : k < n) : (trues n k).set k true = trues n (k + 1) := by
  rw [trues, List.set_append_right _ _ (by simp), List.length_replicate, Nat.sub_self, show n - k = (n - (k + 1)) + 1 by omega, List.replicate_succ, List.set_cons_zero, trues, List.replicate_succ']; simp
def pad (n : Nat) (to_ : List Bool) : List Bool := to_.take n ++ List.replicate (n - to_.length) false
theorem pad_len (n : Nat) (to_ : List Bool) : (pad n to_).length = n := by simp [pad]; omega
theorem pad_of (n : Nat) (to_ : List Bool) : to_.take (List.replicate n false).length ++ (List.replicate n false).drop to_.length = pad n to_ := by simp [pad]
def orN (out st : List Bool) (k : Nat) : List Bool := List.zipWith (· || ·) (out.take k) (st.take k) ++ out.drop k
theorem orN_zero (out st : List Bool) : orN out st 0 = out := by simp [orN]
theorem orN_len (out st : List Bool) (k : Nat) (h : st.length = out.length) (hk : k ≤ out.length) : (orN out st k).length = out.length := by simp [orN]; omega
theorem orN_get (out st : List Bool) (k : Nat) (b : Bool) (h : st.length = out.length) (hb : out[k]? = some b) : (orN out st k)[k]? = some b := by
  have hk : k < out.length := by
    rcases Nat.lt_or_ge k out.length with h1 | h1
    · exact h1
    · rw [List.getElem?_eq_none h1] at hb; cases hb
  (have hl : (List.zipWith (· || ·) (out.take k) (st.take k)).length = k := by simp; omega); rw [orN, List.getElem?_append_right (by omega), hl, Nat.sub_self, List.getElem?_drop, Nat.add_zero, hb]
theorem orN_succ (out st : List Bool) (k : Nat) (b c : Bool) (h : st.length = out.length) (hb : out[k]? = some b) (hc : st[k]? = some c) : (orN out st k).set k (b || c) = orN out st (k + 1) := by
  have hk : k < out.length := by
    rcases Nat.lt_or_ge k out.length with h1 | h1
    · exact h1
    · rw [List.getElem?_eq_none h1] at hb; cases hb
  have hl : (List.zipWith (· || ·) (out.take k) (st.take k)).length = k := by simp; omega
  have hd : out.drop k = b :: out.drop (k + 1) := by
    rw [List.drop_eq_getElem_cons hk]; congr 1; rw [List.getElem?_eq_getElem hk] at hb; injection hb
  rw [orN, List.set_append_right _ _ (by omega), hl, Nat.sub_self, hd, List.set_cons_zero, orN, List.take_add_one, List.take_add_one, hb, hc]; rw [List.zipWith_append (by simp; omega)]; simp
theorem orN_all (out st : List Bool) (h : st.length = out.length) : orN out st out.length = List.zipWith (· || ·) out st := by
  rw [orN, List.take_length, ← h, List.take_length, h, List.drop_length, List.append_nil]
def orB (out st : List Bool) : List Bool := List.zipWith (· || ·) out st
theorem orB_len (out st : List Bool) (h : st.length = out.length) : (orB out st).length = out.length := by simp [orB, h]
def reachIt (g : List (List Int)) : Nat → List Bool → List Bool
  | 0, b => b
  | n + 1, b => orB (reachIt g n b) (stepB g (reachIt g n b))
theorem reachIt_len (g : List (List Int)) (b : List Bool) (h : b.length = g.length) : ∀ n, (reachIt g n b).length = g.length
  | 0 => h
  | n + 1 => by rw [reachIt, orB_len _ _ (by rw [stepB_len, reachIt_len g b h n]), reachIt_len g b h n]
def reachB (g : List (List Int)) (to_ : List Bool) : List Bool := reachIt g g.length (pad g.length to_)
def hopRow (g : List (List Int)) (p : List Bool) (k n : Nat) : List Int := ((List.range n).filter fun i => (itB g i p).getD k false).map Int.ofNat
theorem hopRow_succ (g : List (List Int)) (p : List Bool) (k n : Nat) (b : Bool) (hb : (itB g n p)[k]? = some b) : hopRow g p k (n + 1) = hopRow g p k n ++ (if b then [(n : Int)] else []) := by
  rw [hopRow, List.range_succ, List.filter_append, List.map_append, hopRow]; congr 1; simp [List.filter_cons, List.getD_eq_getElem?_getD, hb]; cases b <;> simp
theorem hopRow_true (g : List (List Int)) (p : List Bool) (k n : Nat) (hb : (itB g n p)[k]? = some true) : hopRow g p k (n + 1) = hopRow g p k n ++ [(n : Int)] := by
  rw [hopRow_succ g p k n true hb]; rfl
theorem hopRow_len (g : List (List Int)) (p : List Bool) (k n : Nat) : (hopRow g p k n).length ≤ n := by
  rw [hopRow, List.length_map]; have := List.length_filter_le (fun i => (itB g i p).getD k false) (List.range n); simpa using this
def hopsI (g : List (List Int)) (p : List Bool) (n j : Nat) : List (List Int) := (List.range g.length).map fun k => hopRow g p k (if k < j then n + 1 else n)
theorem hopsI_len (g : List (List Int)) (p : List Bool) (n j : Nat) : (hopsI g p n j).length = g.length := by simp [hopsI]
theorem hopsI_get (g : List (List Int)) (p : List Bool) (n j : Nat) (h : j < g.length) : (hopsI g p n j)[j]? = some (hopRow g p j n) := by
  simp [hopsI, h]
theorem hopsI_next (g : List (List Int)) (p : List Bool) (n j : Nat) (h : j < g.length) : (hopsI g p n j).set j (hopRow g p j (n + 1)) = hopsI g p n (j + 1) := by
  apply List.ext_getElem
  · simp [hopsI]
  · intro i h1 h2
    simp only [hopsI, List.getElem_set, List.getElem_map, List.getElem_range]; by_cases e : j = i
    · subst e; simp
    · rw [if_neg e]
      congr 1; by_cases e2 : i < j
      · rw [if_pos e2, if_pos (by omega)]
      · rw [if_neg e2, if_neg (by omega)]
theorem hopsI_same (g : List (List Int)) (p : List Bool) (n j : Nat) (h : j < g.length) (hb : (itB g n p)[j]? = some false) : hopsI g p n j = hopsI g p n (j + 1) := by
  rw [← hopsI_next g p n j h, hopRow_succ g p j n false hb]; simp only [Bool.false_eq_true, if_false, List.append_nil]; rw [set_same (hopsI_get g p n j h)]
theorem hopsI_all (g : List (List Int)) (p : List Bool) (n : Nat) : hopsI g p n g.length = hopsI g p (n + 1) 0 := by
  simp only [hopsI]; apply List.map_congr_left; intro k hk; rw [if_pos (by simpa using hk), if_neg (by omega)]
theorem hopsI_zero (g : List (List Int)) (p : List Bool) : hopsI g p 0 0 = List.replicate g.length [] := by
  apply List.ext_getElem
  · simp [hopsI]
  · intro i h1 h2; simp [hopsI, hopRow]
def hopsB (g : List (List Int)) (to_ : List Bool) (most : Int) : List (List Int) := hopsI g (pad g.length to_) (min most 256 + 1).toNat 0
end Go.Proofs.Ytcagkdgpoijkoaa.FwP
end
section
namespace Go.Proofs.Ytcagkdgpoijkoaa.Fw
open Go.RowKit Go.Proofs.Ytcagkdgpoijkoaa.Mq Go.Proofs.Ytcagkdgpoijkoaa.FwP
set_option linter.unusedVariables false
set_option linter.unusedSimpArgs false
attribute [local go_sem] max2_int min2_int max_two min_two
theorem info_bool : (Try.prog.info? 4).map (fun i => (i.zero, i.size, i.bytes)) = some (some (.bool false), 1, 1) := by kernel_rfl
theorem info_int : (Try.prog.info? 3).map (fun i => (i.zero, i.size, i.bytes)) = some (some (.int .i64 0), 1, 8) := by kernel_rfl
theorem info_ints : (Try.prog.info? 29).map (fun i => (i.zero, i.size, i.bytes)) = some (some (.slice none 0 0), 1, 24) := by kernel_rfl
set_option maxHeartbeats 1000000 in
set_option maxRecDepth 100000 in
theorem step_calls {w : World} {A0 A1 : Option Addr} {g : List (List Int)} {to_ : List Bool} {c0 c1 : Nat} (hg : Row (slice (int .i64)) w (· < w.heap.size) A0 g) (hto : Row bool w (· < w.heap.size) A1 to_) (hgl : g.length ≤ 281474976710656) :
    Calls Try.prog 29 #[.slice A0 g.length c0, .slice A1 to_.length c1] w fun e W => ∃ v, e = .returned v ∧ Mem w W [] [own bool 4 v (stepB g to_)] := by
  have H := MemM.start w; go_enter Try.func29, Try.ntmps29; go_wp2_with (first | ((with_reducible refine gate_dst (N := 12) rfl ?_); refine wp_make H bool 4 rfl 28 _ _ rfl g.length rfl rfl Try.underlying28 (.bool false) 1 info_bool rfl (by decide) (by decide) false (fun _ => rfl) (by omega) ?_; clear H; intro g5 W5 H)); rw [← stepN_zero g to_] at H; go_loopw [15] (fun v15 W => ∃ k : Nat, k ≤ g.length ∧ v15 = .int .i64 k ∧ Mem w W [] [own bool 4 (.slice (some ⟨g5, 0, none⟩) g.length g.length) (stepN g to_ k)]) (fun v15 _ => g.length - (intOf v15).toNat)
  case atStart => exact ⟨0, Nat.zero_le _, rfl, H⟩
  case round =>
    clear H; obtain ⟨k, hk, rfl, H⟩ := hrel; by_cases hlt : k < g.length
    · obtain ⟨r, hr⟩ : ∃ r, g[k]? = some r := ⟨_, List.getElem?_eq_getElem hlt⟩
      obtain ⟨ad, A2, c2, rfl, hx0, hc2, hrow⟩ := H.row_at hg hr; have hrm := hrow.len; unfold maxLen at hrm; go_wp2; go_loopw [22] (fun v22 W => ∃ j : Nat, j ≤ r.length ∧ v22 = .int .i64 j ∧ Mem w W [] [own bool 4 (.slice (some ⟨g5, 0, none⟩) g.length g.length) (stepI g to_ k r j)]) (fun v22 _ => r.length - (intOf v22).toNat)
      case atStart => exact ⟨0, Nat.zero_le _, rfl, by rw [stepI_zero g to_ k r hlt]; exact H⟩
      case round =>
        clear H hx0; obtain ⟨j, hj, rfl, H⟩ := hrel; by_cases hjl : j < r.length
        · obtain ⟨x, hxj⟩ : ∃ x, r[j]? = some x := ⟨_, List.getElem?_eq_getElem hjl⟩
          obtain ⟨ad2, rfl, hx0⟩ := H.int_at hrow hxj; obtain ⟨hc0, hfz⟩ := H.bool_cell (.head _) (stepI_get g to_ k r j hlt); (have fin := fun c hc => stepI_set g to_ k r j x hxj c hc); (have HF := fun c => H.setB (i := k) (by rw [stepI_len g to_ k r j hlt]; exact hlt) c); obtain ⟨b, hb⟩ : ∃ b, (r.take j).any (hit to_) = b := ⟨_, rfl⟩; rw [hb] at hc0 fin; clear hb; have fin := hide fin; by_cases hin : 0 ≤ x ∧ x < to_.length
          · obtain ⟨h0, h1⟩ := hin
            obtain ⟨y, hy⟩ : ∃ y, to_[x.toNat]? = some y := ⟨_, List.getElem?_eq_getElem (by omega)⟩; obtain ⟨ad1, rfl, hx1⟩ := H.bool_at hto hy; have hv : Hid (hit to_ x = y) := hit_in h0 h1 hy; clear hy; cases b
            all_goals
              go_wp2; go_roundw
              case rel => exact ⟨j + 1, by omega, by go_num, by rw [← fin.out _ (by rw [hv.out]; try rfl)]; exact HF _⟩
              case measure => simp [intOf]; omega
          · have hv : Hid (hit to_ x = false) := hit_out hin
            by_cases h0 : 0 ≤ x
            · have h1 : ¬ x < to_.length := fun h => hin ⟨h0, h⟩
              cases b
              all_goals
                go_wp2; go_roundw
                case rel => exact ⟨j + 1, by omega, by go_num, by rw [← fin.out _ (by rw [hv.out]; try rfl)]; exact HF _⟩
                case measure => simp [intOf]; omega
            · cases b
              all_goals
                go_wp2; go_roundw
                case rel => exact ⟨j + 1, by omega, by go_num, by rw [← fin.out _ (by rw [hv.out]; try rfl)]; exact HF _⟩
                case measure => simp [intOf]; omega
        · obtain rfl : j = r.length := by omega
          rw [stepI_all g to_ k r hr] at H; go_wp2; go_roundw
          case rel => exact ⟨k + 1, by omega, by go_num, H⟩
          case measure => simp [intOf]; omega
    · obtain rfl : k = g.length := by omega
      rw [stepN_all] at H; go_wp2; go_ret; exact ⟨_, rfl, H⟩
theorem step_calls' {w : World} {A0 A1 : Option Addr} {g : List (List Int)} {to_ : List Bool} {c0 c1 n : Nat} (hn : n = to_.length) (hg : Row (slice (int .i64)) w (· < w.heap.size) A0 g) (hto : Row bool w (· < w.heap.size) A1 to_) (hgl : g.length ≤ 281474976710656) :
    Calls Try.prog 29 #[.slice A0 g.length c0, .slice A1 n c1] w fun e W => ∃ v, e = .returned v ∧ Mem w W [] [own bool 4 v (stepB g to_)] := by
  subst hn; exact step_calls hg hto hgl
set_option maxHeartbeats 1000000 in
set_option maxRecDepth 100000 in
theorem loops_calls {w : World} {A0 : Option Addr} {g : List (List Int)} {c0 : Nat} (hg : Row (slice (int .i64)) w (· < w.heap.size) A0 g) (hgl : g.length ≤ 281474976710656) :
    Calls Try.prog 16 #[.slice A0 g.length c0] w fun e W => ∃ v, e = .returned v ∧ Mem w W [] [own bool 4 v (loopsB g)] := by
  have H := MemM.start w; go_enter Try.func16, Try.ntmps16; go_wp2_with (first | ((with_reducible refine gate_dst (N := 7) rfl ?_); refine wp_make H bool 4 rfl 28 _ _ rfl g.length rfl rfl Try.underlying28 (.bool false) 1 info_bool rfl (by decide) (by decide) false (fun _ => rfl) (by omega) ?_; clear H; intro g5 W5 H)); rw [← trues_zero] at H; go_loopw [10] (fun v10 W => ∃ k : Nat, k ≤ g.length ∧ v10 = .int .i64 k ∧ Mem w W [] [own bool 4 (.slice (some ⟨g5, 0, none⟩) g.length g.length) (trues g.length k)]) (fun v10 _ => g.length - (intOf v10).toNat)
  case atStart => exact ⟨0, Nat.zero_le _, rfl, H⟩
  case round =>
    clear H; obtain ⟨k, hk, rfl, H⟩ := hrel; by_cases hlt : k < g.length
    · obtain ⟨hc0, hfz⟩ := H.bool_cell (.head _) (trues_get g.length k hlt)
      have HF := H.setB (i := k) (by rw [trues_len g.length k hk]; exact hlt) true; rw [trues_succ g.length k hlt] at HF; go_wp2; go_roundw
      case rel => exact ⟨k + 1, by omega, by go_num, HF⟩
      case measure => simp [intOf]; omega
    · obtain rfl : k = g.length := by omega
      rw [trues_all] at H; go_wp2; go_loopw [3, 19] (fun v3 v19 W => ∃ k : Nat, k ≤ g.length ∧ v19 = .int .i64 k ∧ Mem w W [] [own bool 4 v3 (itB g k (List.replicate g.length true))]) (fun _ v19 _ => g.length - (intOf v19).toNat)
      case atStart => exact ⟨0, Nat.zero_le _, rfl, H⟩
      case round =>
        clear H; obtain ⟨k, hk, rfl, H⟩ := hrel; by_cases hlt : k < g.length
        · obtain ⟨A3, c3, rfl, -, hb⟩ := H.rd (.head _)
          go_wp2_with (go_at_call 29; refine (step_calls (H.arg hg) hb hgl).mono ?_; rintro e W1 ⟨v, rfl, hm⟩; have H := (H.call hm).pull1.drop; clear hm); go_roundw
          case rel => exact ⟨k + 1, by omega, by go_num, H⟩
          case measure => simp [intOf]; omega
        · obtain rfl : k = g.length := by omega
          go_wp2; go_ret; exact ⟨_, rfl, H⟩
set_option maxHeartbeats 1000000 in
set_option maxRecDepth 100000 in
theorem reach_calls {w : World} {A0 A1 : Option Addr} {g : List (List Int)} {to_ : List Bool} {c0 c1 : Nat} (hg : Row (slice (int .i64)) w (· < w.heap.size) A0 g) (hto : Row bool w (· < w.heap.size) A1 to_) (hgl : g.length ≤ 281474976710656) :
    Calls Try.prog 15 #[.slice A0 g.length c0, .slice A1 to_.length c1] w fun e W => ∃ v, e = .returned v ∧ Mem w W [] [own bool 4 v (reachB g to_)] := by
  have H := MemM.start w; go_enter Try.func15, Try.ntmps15; go_wp2_with (first | ((with_reducible refine gate_dst (N := 10) rfl ?_); refine wp_make H bool 4 rfl 28 _ _ rfl g.length rfl rfl Try.underlying28 (.bool false) 1 info_bool rfl (by decide) (by decide) false (fun _ => rfl) (by omega) ?_; clear H; intro g5 W5 H) | ((with_reducible refine gate_dst (N := 13) rfl ?_); refine wp_copy H rfl _ _ _ _ rfl Try.underlying28 (by kernel_rfl) rfl (fun h => h) to_ A1 c1 rfl rfl (H.arg hto) ?_; clear H; intro W6 H)); rw [pad_of] at H; have hpl := hide (pad_len g.length to_); go_loopw [16] (fun v16 W => ∃ k : Nat, k ≤ g.length ∧ v16 = .int .i64 k ∧ Mem w W [] [own bool 4 (.slice (some ⟨g5, 0, none⟩) g.length g.length) (reachIt g k (pad g.length to_))]) (fun v16 _ => g.length - (intOf v16).toNat)
  case atStart => exact ⟨0, Nat.zero_le _, rfl, H⟩
  case round =>
    clear H; obtain ⟨k, hk, rfl, H⟩ := hrel; by_cases hlt : k < g.length
    · have hl := hide (reachIt_len g _ hpl.out k)
      have hs := hide (show (stepB g (reachIt g k (pad g.length to_))).length = (reachIt g k (pad g.length to_)).length by rw [stepB_len, hl.out]); have hnx : Hid (reachIt g (k + 1) (pad g.length to_) = orB (reachIt g k (pad g.length to_)) (stepB g (reachIt g k (pad g.length to_)))) := rfl; obtain ⟨out, hout⟩ : ∃ out, reachIt g k (pad g.length to_) = out := ⟨_, rfl⟩; rw [hout] at H hl hs hnx; clear hout; obtain ⟨-, -, hb⟩ := H.rdx (.head _); go_wp2_with (go_at_call 29; refine (step_calls' (hl.out.symm) (H.arg hg) hb hgl).mono ?_; rintro e W1 ⟨v, rfl, hm⟩; have H := (H.call hm).pull1; clear hm hb; obtain ⟨A4, c4, rfl, -, -⟩ := H.rd (.tail _ (.head _))); have hz := hide (orN_zero out (stepB g out)); rw [← hz.out] at H; go_loopw [22] (fun v22 W => ∃ j : Nat, j ≤ out.length ∧ v22 = .int .i64 j ∧ Mem w W [] [own bool 4 (.slice (some ⟨g5, 0, none⟩) g.length g.length) (orN out (stepB g out) j), own bool 4 (.slice A4 (stepB g out).length c4) (stepB g out)]) (fun v22 _ => out.length - (intOf v22).toNat)
      case atStart => exact ⟨0, Nat.zero_le _, rfl, H⟩
      case round =>
        clear H; obtain ⟨j, hj, rfl, H⟩ := hrel; by_cases hjl : j < out.length
        · obtain ⟨b, hb⟩ : ∃ b, out[j]? = some b := ⟨_, List.getElem?_eq_getElem hjl⟩
          obtain ⟨c, hc⟩ : ∃ c, (stepB g out)[j]? = some c := ⟨_, List.getElem?_eq_getElem (by rw [hs.out]; exact hjl)⟩; obtain ⟨hc0, hfz⟩ := H.bool_cell (.head _) (orN_get out _ j b hs.out hb); obtain ⟨-, -, hrow⟩ := H.rdx (.tail _ (.head _)); obtain ⟨ad4, cs, rfl, -, rfl, hx⟩ := hrow.at_ hc; have hx0 := hx 0 _ rfl; rw [show (Mq.bool).sz = 1 from rfl, Nat.mul_one, Nat.add_zero] at hx0; have HF := H.setB (i := j) (by rw [orN_len out _ j hs.out hj]; exact hjl) (b || c); rw [orN_succ out _ j b c hs.out hb hc] at HF; (have h1 : j < (stepB g out).length := by rw [hs.out]; exact hjl); (have h2 : j < g.length := by rw [← hl.out]; exact hjl); clear hx hrow hb hc; cases b
          all_goals
            go_wp2; go_roundw
            case rel => exact ⟨j + 1, by omega, by go_num, HF⟩
            case measure => simp [intOf]; omega
        · obtain rfl : j = out.length := by omega
          have H := H; rw [orN_all out _ hs.out] at H; (have h1 : ¬ out.length < (stepB g out).length := by rw [hs.out]; omega); go_wp2; go_roundw
          case rel => exact ⟨k + 1, by omega, by go_num, by rw [hnx.out]; exact H.pull1.drop⟩
          case measure => simp [intOf]; omega
    · obtain rfl : k = g.length := by omega
      go_wp2; go_ret; exact ⟨_, rfl, H⟩
set_option maxHeartbeats 1000000 in
set_option maxRecDepth 100000 in
theorem hops_calls {w : World} {A0 A1 : Option Addr} {g : List (List Int)} {to_ : List Bool} {most : Int} {c0 c1 : Nat} (hg : Row (slice (int .i64)) w (· < w.heap.size) A0 g) (hto : Row bool w (· < w.heap.size) A1 to_) (hgl : g.length ≤ 1000000000) :
    Calls Try.prog 19 #[.slice A0 g.length c0, .slice A1 to_.length c1, .int .i64 most] w fun e W => ∃ v, e = .returned v ∧ Mem w W [] [own (slice (int .i64)) 29 v (hopsB g to_ most)] := by
  have H := MemM.start w; go_enter Try.func19, Try.ntmps19; go_wp2_with (first | ((with_reducible refine gate_dst (N := 14) rfl ?_); refine wp_make H raw 29 rfl 43 _ _ rfl g.length rfl rfl Try.underlying43 (.slice none 0 0) 24 info_ints rfl (by decide) (by decide) nilCell (fun _ => rfl) (by omega) ?_; clear H; intro g7 W7 H) | ((with_reducible refine gate_dst (N := 17) rfl ?_); refine wp_make H bool 4 rfl 28 _ _ rfl g.length rfl rfl Try.underlying28 (.bool false) 1 info_bool rfl (by decide) (by decide) false (fun _ => rfl) (by omega) ?_; clear H; intro g8 W8 H) | ((with_reducible refine gate_dst (N := 20) rfl ?_); refine wp_copy H rfl _ _ _ _ rfl Try.underlying28 (by kernel_rfl) rfl (fun h => h) to_ A1 c1 rfl rfl (H.arg hto) ?_; clear H; intro W6 H)); rw [pad_of] at H; have H := (MemM.nilRows H.pull1 (int .i64) 3 g.length).pull; have hp := hide (pad_len g.length to_); have hdef : Hid (hopsB g to_ most = hopsI g (pad g.length to_) (min most 256 + 1).toNat 0) := rfl; obtain ⟨p, hpd⟩ : ∃ p, pad g.length to_ = p := ⟨_, rfl⟩; rw [hpd] at H hp hdef; clear hpd; rw [← hopsI_zero g p] at H; (have hM : (min most 256 + 1).toNat ≤ 257 := by omega); obtain ⟨M, hMd⟩ : ∃ M, (min most 256 + 1).toNat = M := ⟨_, rfl⟩; have hMd := hide hMd; rw [hMd.out] at hM hdef; go_loopw [8, 9] (fun v8 v9 W => ∃ (n : Nat) (vs : List Cell), n ≤ M ∧ v9 = .int .i64 n ∧ Hid (vs.length = g.length) ∧ Mem w W [] (own raw 29 (.slice (some ⟨g7, 0, none⟩) g.length g.length) vs :: (rowsOf (int .i64) 3 vs (hopsI g p n 0) ++ [own bool 4 v8 (itB g n p)]))) (fun _ v9 _ => M - (intOf v9).toNat)
  case atStart => exact ⟨0, _, Nat.zero_le _, rfl, by simp [Hid], H⟩
  case round =>
    clear H; obtain ⟨n, vs, hn, rfl, hvs, H⟩ := hrel; by_cases hlt : n < M
    · have htest : (n : Int) ≤ min most 256 := by have := hMd.out; omega
      have hl := hide (itB_len g p hp.out n); have hnx : Hid (itB g (n + 1) p = stepB g (itB g n p)) := rfl; have hrow := hide (fun k (hb : (itB g n p)[k]? = some true) => hopRow_true g p k n hb); have hsame := hide (fun k (hk : k < g.length) (hb : (itB g n p)[k]? = some false) => hopsI_same g p n k hk hb); obtain ⟨now, hnow⟩ : ∃ now, itB g n p = now := ⟨_, rfl⟩; rw [hnow] at H hl hnx hrow hsame; clear hnow; obtain ⟨A8, c8, rfl, -, -⟩ := H.rd (List.mem_cons_of_mem _ (List.mem_append_right _ (.head _))); go_wp2; go_loopw [29] (fun v29 W => ∃ (j : Nat) (vs : List Cell), j ≤ now.length ∧ v29 = .int .i64 j ∧ Hid (vs.length = g.length) ∧ Mem w W [] (own raw 29 (.slice (some ⟨g7, 0, none⟩) g.length g.length) vs :: (rowsOf (int .i64) 3 vs (hopsI g p n j) ++ [own bool 4 (.slice A8 now.length c8) now]))) (fun v29 _ => now.length - (intOf v29).toNat)
      case atStart => exact ⟨0, vs, Nat.zero_le _, rfl, hvs, H⟩
      case round =>
        clear H hvs; obtain ⟨j, vs, hj, rfl, hvs, H⟩ := hrel; by_cases hjl : j < now.length
        · have hjg : j < g.length := by have := hl.out; omega
          obtain ⟨b, hb⟩ : ∃ b, now[j]? = some b := ⟨_, List.getElem?_eq_getElem hjl⟩; obtain ⟨-, -, hnr⟩ := H.rdx (List.mem_cons_of_mem _ (List.mem_append_right _ (.head _))); obtain ⟨ad8, cs, rfl, -, rfl, hx⟩ := hnr.at_ hb; have hx0 := hx 0 _ rfl; rw [show (Mq.bool).sz = 1 from rfl, Nat.mul_one, Nat.add_zero] at hx0; clear hx hnr; cases b
          · have hs := hsame.out j hjg hb
            have hs := hide hs; clear hb; go_wp2; go_roundw
            case rel => exact ⟨j + 1, vs, by omega, by go_num, hvs, by rw [← hs.out]; exact H⟩
            case measure => simp [intOf]; omega
          · have hrs := hide (hrow.out j hb)
            have hln := hopRow_len g p j n; have hget := hide (hopsI_get g p n j hjg); have hnext := hide (hopsI_next g p n j hjg); clear hb; obtain ⟨xs, hxs⟩ : ∃ xs, hopRow g p j n = xs := ⟨_, rfl⟩; rw [hxs] at hrs hln hget; clear hxs; obtain ⟨⟨v, hv1⟩, hv⟩ : ∃ v, vs[j]? = some v := ⟨_, List.getElem?_eq_getElem (by rw [hvs.out]; exact hjg)⟩; obtain ⟨l1, l2, e1, e2⟩ := rowsOf_split (int .i64) 3 (by rw [hvs.out, hopsI_len]) hv hget.out; have e2 := hide e2; have hvv := hide hv; rw [e1] at H; clear e1 hv; obtain ⟨A, c, rfl⟩ := H.one (d := int .i64) (e := 3) (v := v) (xs := xs) (by simp); obtain ⟨u, hu, hc0, hf0⟩ := H.cell1 (.head _) hvv.out; cases hu; rw [show ∀ (a b c : Asr) (l1 l2 : List Asr), a :: (l1 ++ b :: l2 ++ [c]) = (a :: l1) ++ b :: (l2 ++ [c]) from fun a b c l1 l2 => by simp] at H; have H := H.pull; go_wp2_with (first | ((with_reducible refine gate_dst (N := 43) rfl ?_); refine wp_append H rfl _ _ _ (.int .i64 0) 8 rfl Try.underlying29 info_int rfl (by decide) (by decide) (n : Int) [.int .i64 n] rfl rfl (fun _ _ => rfl) (by omega) ?_; clear H hc0 hf0; intro v1 W1 H; obtain ⟨A1', c1', rfl⟩ := H.one (.head _); obtain ⟨u, hu, hc1, hf1⟩ := H.cell1 (.tail _ (.head _)) hvv.out; clear hu)); have H := H.push (l1 := own raw 29 (.slice (some ⟨g7, 0, none⟩) g.length g.length) vs :: l1); rw [List.length_append, List.length_singleton] at H; have H := MemM.set1 (l := l1 ++ own (int .i64) 3 (.slice A1' (xs.length + 1) c1') (xs ++ [(n : Int)]) :: (l2 ++ [own bool 4 (.slice (some ad8) now.length c8) now])) H (i := j) (by rw [hvs.out]; exact hjg) (x' := slCell A1' (xs.length + 1) c1') (u := .slice A1' (xs.length + 1) c1') (fun _ _ => rfl); rw [← hrs.out, show ∀ (b c : Asr) (l1 l2 : List Asr), l1 ++ b :: (l2 ++ [c]) = l1 ++ b :: l2 ++ [c] from fun b c l1 l2 => by simp] at H; have e3 := e2.out (slCell A1' (xs.length + 1) c1') (hopRow g p j (n + 1)); rw [hnext.out] at e3; go_roundw
            case rel => exact ⟨j + 1, vs.set j (slCell A1' (xs.length + 1) c1'), by omega, by go_num, by rw [Hid, List.length_set]; exact hvs, by rw [e3]; exact H⟩
            case measure => simp [intOf]; omega
        · obtain rfl : j = now.length := by omega
          rw [hl.out, hopsI_all] at H; obtain ⟨-, -, hb⟩ := H.rdx (List.mem_cons_of_mem _ (List.mem_append_right _ (.head _))); go_wp2_with (go_at_call 29; refine (step_calls' rfl (H.arg hg) hb (by omega)).mono ?_; rintro e W1 ⟨v, rfl, hm⟩; have H := (H.call hm).swapLast; clear hm hb; rw [← hnx.out] at H); go_roundw
          case rel => exact ⟨n + 1, vs, by omega, by go_num, hvs, H⟩
          case measure => simp [intOf]; omega
    · obtain rfl : n = M := by omega
      (have htest : ¬ (n : Int) ≤ min most 256 := by have := hMd.out; omega); rw [← hdef.out] at H; go_wp2; go_ret; exact ⟨_, rfl, (MemM.nest (d := int .i64) (by decide) (by rw [hvs.out, hdef.out, hopsI_len]) H).pull1.drop⟩
end Go.Proofs.Ytcagkdgpoijkoaa.Fw
end
section
namespace Go.Proofs.Ytcagkdgpoijkoaa.Mq
open Go.RowKit
set_option linter.unusedVariables false
abbrev Str := List UInt8
structure Pf where
  addr : Int
  bits : Int
  deriving DecidableEq
def Pf.enc (p : Pf) : List Value := [.int .u32 p.addr, .int .i64 p.bits]
def pfR : Rep Pf := flat 2 Pf.enc (fun _ => rfl) (fun x u hu => by simp [Pf.enc] at hu; rcases hu with rfl | rfl <;> rfl)
structure Cl where
  any : Bool
  pre : Pf
  wth : Int
  out : Int
  drop : Bool
  set : Int
  clr : Int
  more : Int
  pref : Int
  deriving DecidableEq
def Cl.enc (c : Cl) : List Value := [.bool c.any, .int .u32 c.pre.addr, .int .i64 c.pre.bits, .int .u8 c.wth, .int .u8 c.out, .bool c.drop, .int .u8 c.set, .int .u8 c.clr, .int .i64 c.more, .int .i64 c.pref]
def clR : Rep Cl := flat 10 Cl.enc (fun _ => rfl) (fun x u hu => by simp [Cl.enc] at hu; rcases hu with rfl | rfl | rfl | rfl | rfl | rfl | rfl | rfl | rfl | rfl <;> rfl)
structure Lk where
  peer : Str
  cost : Int
  imp : Str
  exp : Str
  at_ : Int
  deriving DecidableEq
def Lk.enc (l : Lk) : List Value := [.string (bs l.peer), .int .i64 l.cost, .string (bs l.imp), .string (bs l.exp), .int .i64 l.at_]
def lkR : Rep Lk := flat 5 Lk.enc (fun _ => rfl) (fun x u hu => by simp [Lk.enc] at hu; rcases hu with rfl | rfl | rfl | rfl | rfl <;> rfl)
structure Wy where
  pre : Pf
  via : Str
  at_ : Int
  deriving DecidableEq
def Wy.enc (l : Wy) : List Value := [.int .u32 l.pre.addr, .int .i64 l.pre.bits, .string (bs l.via), .int .i64 l.at_]
def wyR : Rep Wy := flat 4 Wy.enc (fun _ => rfl) (fun x u hu => by simp [Wy.enc] at hu; rcases hu with rfl | rfl | rfl | rfl <;> rfl)
structure Rt where
  name : Str
  nets : List Pf
  links : List Lk
  ways : List Wy
  at_ : Int
def Rt.leaves (r : Rt) : List Leaf := [.val (.string (bs r.name)), .row pfR r.nets, .row lkR r.links, .row wyR r.ways, .val (.int .i64 r.at_)]
def rtR : Rep Rt := strct 5 Rt.leaves (fun _ => rfl) (fun x l hl => by simp [Rt.leaves] at hl; rcases hl with rfl | rfl | rfl | rfl | rfl <;> first | trivial | rfl)
structure Mp where
  name : Str
  clauses : List Cl
  at_ : Int
def Mp.leaves (m : Mp) : List Leaf := [.val (.string (bs m.name)), .row clR m.clauses, .val (.int .i64 m.at_)]
def mpR : Rep Mp := strct 3 Mp.leaves (fun _ => rfl) (fun x l hl => by simp [Mp.leaves] at hl; rcases hl with rfl | rfl | rfl <;> first | trivial | rfl)
structure Ed where
  frm : Int
  cost : Int
  exp : List Cl
  imp : List Cl
def Ed.leaves (e : Ed) : List Leaf := [.val (.int .i64 e.frm), .val (.int .i64 e.cost), .row clR e.exp, .row clR e.imp]
def edR : Rep Ed := strct 4 Ed.leaves (fun _ => rfl) (fun x l hl => by simp [Ed.leaves] at hl; rcases hl with rfl | rfl | rfl | rfl <;> first | trivial | rfl)
structure Cf where
  maps : List Mp
  routers : List Rt
structure Nt where
  origin : List Bool
  static : List Int
  edges : List (List Ed)
section
variable {w : World} {S : Nat → Prop} {A : Option Addr}
theorem Row.flat1 {α : Type} {sz : Nat} {enc : α → List Value} {h1 : ∀ x, (enc x).length = sz} {h2 : ∀ x, ∀ u ∈ enc x, u.oneCell' = true} {xs : List α} (h : Row (flat sz enc h1 h2) w S A xs) {i : Nat} {x : α} (hx : xs[i]? = some x) :
    ∃ ad, A = some ad ∧ ∀ (j : Nat) u, (enc x)[j]? = some u → w.cell? (ad.add (i * sz + j)) = some u := by
  obtain ⟨ad, cs, e, _, hK, hc⟩ := h.at_ hx
  cases hK
  exact ⟨ad, e, hc⟩
theorem Row.mp1 {xs : List Mp} (h : Row mpR w S A xs) {i : Nat} {m : Mp} (hx : xs[i]? = some m) :
    ∃ ad A1 n, A = some ad ∧ (∀ (j : Nat) u, [Value.string (bs m.name), .slice A1 m.clauses.length n, .int .i64 m.at_][j]? = some u → w.cell? (ad.add (i * 3 + j)) = some u) ∧ Row clR w S A1 m.clauses := by
  obtain ⟨ad, cs, e, _, hK, hc⟩ := h.at_ hx
  obtain ⟨_, _, rfl, rfl, _, _, rfl, ⟨A1, n, rfl, h2, h3⟩, _, _, rfl, rfl, rfl⟩ := hK
  exact ⟨ad, A1, n, e, hc, h3⟩
theorem Row.rt1 {xs : List Rt} (h : Row rtR w S A xs) {i : Nat} {r : Rt} (hx : xs[i]? = some r) :
    ∃ ad A1 n1 A2 n2 A3 n3, A = some ad ∧ (∀ (j : Nat) u, [Value.string (bs r.name), .slice A1 r.nets.length n1, .slice A2 r.links.length n2, .slice A3 r.ways.length n3, .int .i64 r.at_][j]? = some u → w.cell? (ad.add (i * 5 + j)) = some u) ∧ Row pfR w S A1 r.nets ∧ Row lkR w S A2 r.links ∧ Row wyR w S A3 r.ways := by
  obtain ⟨ad, cs, e, _, hK, hc⟩ := h.at_ hx
  obtain ⟨_, _, rfl, rfl, _, _, rfl, ⟨A1, n1, rfl, _, h1⟩, _, _, rfl, ⟨A2, n2, rfl, _, h2⟩, _, _, rfl, ⟨A3, n3, rfl, _, h3⟩, _, _, rfl, rfl, rfl⟩ := hK
  exact ⟨ad, A1, n1, A2, n2, A3, n3, e, hc, h1, h2, h3⟩
theorem bs_inj {a b : Str} : bs a = bs b ↔ a = b := by
  constructor
  · intro h
    have := congrArg (fun x => x.data.toList) h
    simpa [bs] using this
  · rintro rfl; rfl
end
end Go.Proofs.Ytcagkdgpoijkoaa.Mq
end
section
namespace Go.Proofs.Ytcagkdgpoijkoaa.OfP
open Go.Proofs.Ytcagkdgpoijkoaa.Mq
structure At where
  ok : Bool
  pref : Int
  cost : Int
  tags : Int
  deriving DecidableEq
def At.enc (a : At) : List Value := [.bool a.ok, .int .i64 a.pref, .int .i64 a.cost, .int .u8 a.tags]
def atR : Rep At := flat 4 At.enc (fun _ => rfl) (fun x u hu => by simp [At.enc] at hu; rcases hu with rfl | rfl | rfl | rfl <;> rfl)
def le (x y : Int) : Bool := decide (x ≤ y)
def sameB (a b : At) : Bool := (!a.ok && !b.ok) || decide (a = b)
def pick (a : At) (offs : List At) (es : List Ed) : List Int := ((offs.zip es).filter fun p => sameB p.1 a).map (·.2.frm)
inductive Way where
  | none
  | one (x : Int)
  | all (a : At)
def way (o : List Bool) (s : List Int) (l : List At) (k : Nat) : Way :=
  if o.getD k false then .none else
  match s[k]? with
  | some x => if 0 ≤ x then .one x else match l[k]? with | some a => if a.ok then .all a else .none | none => .none
  | none => match l[k]? with | some a => if a.ok then .all a else .none | none => .none
def ofRow (o : List Bool) (s : List Int) (es : List (List Ed)) (l : List At) (offs : Nat → List At) (k : Nat) : List Int :=
  match way o s l k with
  | .none => []
  | .one x => [x]
  | .all a => (pick a (offs k) (es.getD k [])).mergeSort le
def ofN (row : Nat → List Int) (n k : Nat) : List (List Int) := (List.range n).map fun j => if j < k then row j else []
def ofB (o : List Bool) (s : List Int) (es : List (List Ed)) (l : List At) (offs : Nat → List At) : List (List Int) := ofN (ofRow o s es l offs) o.length o.length
theorem ofN_len (row : Nat → List Int) (n k : Nat) : (ofN row n k).length = n := by simp [ofN]
theorem ofN_zero (row : Nat → List Int) (n : Nat) : ofN row n 0 = List.replicate n [] := by
  apply List.ext_getElem?
  intro i
  by_cases h : i < n <;> simp [ofN, h]
theorem ofN_get (row : Nat → List Int) (n k : Nat) (h : k < n) : (ofN row n k)[k]? = some [] := by simp [ofN, h]
theorem ofN_next (row : Nat → List Int) (n k : Nat) : (ofN row n k).set k (row k) = ofN row n (k + 1) := by
  apply List.ext_getElem?
  intro i
  rw [List.getElem?_set]
  by_cases h : k = i
  · subst h
    by_cases hk : k < n
    · simp [ofN, hk]
    · simp [ofN, hk]
  · rw [if_neg h]
    by_cases hi : i < n
    · simp [ofN, hi]
      by_cases h2 : i < k
      · rw [if_pos h2, if_pos (by omega)]
      · rw [if_neg h2, if_neg (by omega)]
    · simp [ofN, hi]
theorem ofN_same (row : Nat → List Int) (n k : Nat) (h : row k = []) : ofN row n (k + 1) = ofN row n k := by
  rw [← ofN_next, h]
  apply List.ext_getElem?
  intro i
  rw [List.getElem?_set]
  by_cases e : k = i
  · subst e
    by_cases hk : k < n <;> simp [ofN, hk]
  · rw [if_neg e]
theorem set_get {α : Type} (l : List α) (k : Nat) (x : α) (h : k < l.length) : (l.set k x)[k]? = some x := by simp [h]
theorem pick_zero (a : At) (es : List Ed) : pick a [] es = [] := by simp [pick]
theorem zip_next {α β : Type} : ∀ (i : Nat) (xs : List α) (ys : List β) (x : α) (y : β), xs[i]? = some x → ys[i]? = some y → (xs.take (i + 1)).zip ys = (xs.take i).zip ys ++ [(x, y)]
  | 0, a :: xs, b :: ys, x, y, h1, h2 => by simp at h1 h2; simp [h1, h2]
  | i + 1, a :: xs, b :: ys, x, y, h1, h2 => by
    have := zip_next i xs ys x y (by simpa using h1) (by simpa using h2)
    simp [this]
theorem pick_next (a : At) (offs : List At) (es : List Ed) (i : Nat) (x : At) (e : Ed) (hx : offs[i]? = some x) (he : es[i]? = some e) :
    pick a (offs.take (i + 1)) es = pick a (offs.take i) es ++ if sameB x a then [e.frm] else [] := by
  have h1 := zip_next i offs es x e hx he
  unfold pick
  rw [h1, List.filter_append, List.map_append]
  cases hs : sameB x a <;> simp [hs]
theorem pick_len (a : At) (offs : List At) (es : List Ed) : (pick a offs es).length ≤ offs.length := by
  unfold pick
  rw [List.length_map]
  exact Nat.le_trans (List.length_filter_le _ _) (by rw [List.length_zip]; omega)
end Go.Proofs.Ytcagkdgpoijkoaa.OfP
end
section
namespace Go.Proofs
open Go.Shelf
def Try.lays189_ren : Go.Shelf.Ren := ⟨fun | 189 => 27 | 125 => 45 | 257 => 44 | 128 => 61 | 129 => 62 | 294 => 52 | 295 => 53 | 296 => 54 | 297 => 55 | 298 => 56 | 299 => 57 | 216 => 58 | 300 => 59 | 301 => 60 | 328 => 74 | 329 => 75 | 330 => 76 | 331 => 77 | 332 => 78 | 215 => 79 | 343 => 83 | n => n, fun | 28 => 29 | 3 => 3 | 46 => 111 | 0 => 0 | 51 => 33 | 53 => 131 | 4 => 4 | 183 => 123 | 182 => 122 | 131 => 105 | 5 => 5 | 9 => 9 | 218 => 140 | 222 => 144 | 228 => 149 | 229 => 150 | n => n, fun | n => n⟩
theorem Try.lays189 : Go.Proofs.Lays.n189 Try.prog Try.lays189_ren := {
  mixed := by kernel_rfl
  f125 := Try.func45.trans (congrArg some (by kernel_rfl))
  f128 := Try.func61.trans (congrArg some (by kernel_rfl))
  f129 := Try.func62.trans (congrArg some (by kernel_rfl))
  f189 := Try.func27.trans (congrArg some (by kernel_rfl))
  f215 := Try.func79.trans (congrArg some (by kernel_rfl))
  f216 := Try.func58.trans (congrArg some (by kernel_rfl))
  f257 := Try.func44.trans (congrArg some (by kernel_rfl))
  f294 := Try.func52.trans (congrArg some (by kernel_rfl))
  f295 := Try.func53.trans (congrArg some (by kernel_rfl))
  f296 := Try.func54.trans (congrArg some (by kernel_rfl))
  f297 := Try.func55.trans (congrArg some (by kernel_rfl))
  f298 := Try.func56.trans (congrArg some (by kernel_rfl))
  f299 := Try.func57.trans (congrArg some (by kernel_rfl))
  f300 := Try.func59.trans (congrArg some (by kernel_rfl))
  f301 := Try.func60.trans (congrArg some (by kernel_rfl))
  f328 := Try.func74.trans (congrArg some (by kernel_rfl))
  f329 := Try.func75.trans (congrArg some (by kernel_rfl))
  f330 := Try.func76.trans (congrArg some (by kernel_rfl))
  f331 := Try.func77.trans (congrArg some (by kernel_rfl))
  f332 := Try.func78.trans (congrArg some (by kernel_rfl))
  f343 := Try.func83.trans (congrArg some (by kernel_rfl))
  t0 := Try.underlying0
  a0 := Try.isAgg0
  z0 := Try.sizeOf0
  v0 := Try.zeroValue0
  t3 := Try.underlying3
  a3 := Try.isAgg3
  z3 := Try.sizeOf3
  v3 := Try.zeroValue3
  t4 := Try.underlying4
  a4 := Try.isAgg4
  z4 := Try.sizeOf4
  v4 := Try.zeroValue4
  t5 := Try.underlying5
  a5 := Try.isAgg5
  z5 := Try.sizeOf5
  v5 := Try.zeroValue5
  t9 := Try.underlying9
  a9 := Try.isAgg9
  z9 := Try.sizeOf9
  v9 := Try.zeroValue9
  t28 := Try.underlying29
  a28 := Try.isAgg29
  z28 := Try.sizeOf29
  v28 := Try.zeroValue29
  t46 := Try.underlying111
  a46 := Try.isAgg111
  z46 := Try.sizeOf111
  v46 := Try.zeroValue111
  t51 := Try.underlying33
  a51 := Try.isAgg33
  z51 := Try.sizeOf33
  v51 := Try.zeroValue33
  t53 := Try.underlying131
  a53 := Try.isAgg131
  z53 := Try.sizeOf131
  v53 := Try.zeroValue131
  t131 := Try.underlying105
  a131 := Try.isAgg105
  z131 := Try.sizeOf105
  v131 := Try.zeroValue105
  t182 := Try.underlying122
  a182 := Try.isAgg122
  z182 := Try.sizeOf122
  v182 := Try.zeroValue122
  t183 := Try.underlying123
  a183 := Try.isAgg123
  z183 := Try.sizeOf123
  v183 := Try.zeroValue123
  t218 := Try.underlying140
  a218 := Try.isAgg140
  z218 := Try.sizeOf140
  v218 := Try.zeroValue140
  t222 := Try.underlying144
  a222 := Try.isAgg144
  z222 := Try.sizeOf144
  v222 := Try.zeroValue144
  t228 := Try.underlying149
  a228 := Try.isAgg149
  z228 := Try.sizeOf149
  v228 := Try.zeroValue149
  t229 := Try.underlying150
  a229 := Try.isAgg150
  z229 := Try.sizeOf150
  v229 := Try.zeroValue150 }
open Go.Sort Go.RowKit in
theorem Try.slices_Sort_int (blk off cap : Nat) (zs : List Int) (w : World) (hH : Holds (Value.int .i64) w blk off zs.toArray) (hblk : blk < w.heap.size) (hsz : zs.length < 4611686018427387904) :
    Calls Try.prog 27 #[.slice (some ⟨blk, off, none⟩) zs.length cap] w fun e w' =>
      e = .returned (.tuple #[]) ∧ ∃ n os, w' = grow (putRow (Value.int .i64) (Sort.ahead w n) blk off (zs.mergeSort fun x y => decide (x ≤ y)).toArray) os := Any.slices_Sort_int Try.lays189 blk off cap zs w hH hblk hsz
open Go.RowKit Go.Sort in
theorem Try.slices_Sort_int_none (p : Option Addr) (cap : Nat) (w : World) :
    Calls Try.prog 27 #[.slice p 0 cap] w fun e w' => e = .returned (.tuple #[]) ∧ w' = w := Any.slices_Sort_int_none Try.lays189 p cap w
end Go.Proofs
end
section
namespace Go.Proofs.Ytcagkdgpoijkoaa.Sorted
open Go.RowKit Go.Sort
open Go.Proofs.YtcagkdgpoijkoaaW.PrintWords (Kd Kept Reps)
set_option linter.unusedVariables false
def le (x y : Int) : Bool := decide (x ≤ y)
theorem take_put (zs : List Int) (cur : Array Value) (h : zs.length ≤ cur.size) : (putCells (Value.int .i64) 0 zs.toArray cur).toList.take zs.length = zs.map (Value.int .i64) := by
  apply List.ext_getElem?; intro i; rw [List.getElem?_take]; by_cases hi : i < zs.length
  · rw [if_pos hi, List.getElem?_map, List.getElem?_eq_getElem hi]
    simp [putCells, hi, show i < cur.size by omega]
  · rw [if_neg hi, List.getElem?_map, List.getElem?_eq_none (by omega)]; rfl
theorem sort_calls (P0_ : Nat → Prop) (u9000_ : Value) (l0 : List Int) (r : List Int) (w0 w : World) (hB : Below w0.heap.size w0 w) (ho0 : Kd.R (Kd.int .i64) 3 w w0.heap.size P0_ u9000_ l0) (hl : l0.length < 4611686018427387904) (h : l0.mergeSort le = r) :
    Calls Try.prog 27 #[u9000_] w fun e w' => e = .returned (.tuple #[]) ∧ Kd.R (Kd.int .i64) 3 w' w0.heap.size (fun k_ => (P0_ k_ ∨ w.heap.size ≤ k_)) u9000_ r ∧ Below w0.heap.size w0 w' ∧ Kept w w' (fun k_ => P0_ k_) := by
  obtain ⟨h0, inner, ⟨hil, ho⟩, hr⟩ := ho0; rcases ho with ⟨rfl, hn⟩ | ⟨g, cap, cur, rfl, hg, hh, hn, hm, hs, ht⟩
  · have : l0 = [] := List.eq_nil_of_length_eq_zero hn
    subst this; (have : r = [] := by rw [← h]; simp); subst this; refine (Try.slices_Sort_int_none none 0 w).mono ?_; rintro e w' ⟨rfl, rfl⟩; exact ⟨rfl, Kd.R_nil _ _ _ _ _, hB, Kept.refl _ _⟩
  · have hgs : g < w.heap.size := (Array.getElem?_eq_some_iff.1 hh).1
    have hcs : l0.length ≤ cur.size := by rw [hs]; show l0.length ≤ cap * 1; omega
    have hel : ∀ j (hj : j < l0.length), cur[j]? = some (.int .i64 l0[j]) := by
      intro j hj; have h2 := hr.2 j _ (List.getElem?_eq_getElem hj); have h3 : ((inner.drop (j * 1)).take 1) = [Value.int .i64 l0[j]] := h2; rw [Nat.mul_one] at h3
      have h4 : inner[j]? = some (.int .i64 l0[j]) := by
        have := congrArg (fun l => l[0]?) h3; simpa [List.getElem?_take, List.getElem?_drop] using this
      rw [← ht, List.getElem?_take] at h4; split at h4
      · simpa using h4
      · cases h4
    have hH : Holds (Value.int .i64) w g 0 l0.toArray := by
      intro j hj; (have hj' : j < l0.length := by simpa using hj); refine ⟨?_, ?_⟩
      · rw [Nat.zero_add]
        have := hel j hj'; simp [World.cell?, hh, this, hj']
      · simp [World.frozen?, hh]
    refine (Try.slices_Sort_int g 0 cap l0 w hH hgs hl).mono ?_; rintro e w' ⟨rfl, m, os, rfl⟩; (have hrl : r.length = l0.length := by rw [← h]; simp); have h' : (l0.mergeSort fun x y => decide (x ≤ y)) = r := h; rw [h']
    have hb : ∀ k, k < w.heap.size → (grow (putRow (Value.int .i64) (Go.Sort.ahead w m) g 0 r.toArray) os).heap[k]? = if k = g then some (.cells (putCells (Value.int .i64) 0 r.toArray cur) 3 (0, 0)) else w.heap[k]? := by
      intro k hk; rw [heap_grow_old _ _ (by simpa [putRow, mapBlock, Go.Sort.ahead] using hk)]; unfold putRow mapBlock Go.Sort.ahead; simp only [Array.getElem?_modify]; by_cases hkg : k = g
      · subst hkg
        simp [hh, onCells]
      · simp [hkg, Ne.symm hkg]
    (have hsz : w.heap.size ≤ (grow (putRow (Value.int .i64) (Go.Sort.ahead w m) g 0 r.toArray) os).heap.size := by simp [grow, putRow, mapBlock, Go.Sort.ahead]); refine ⟨rfl, ⟨fun k hk => .inl (h0 k hk), r.map (Value.int .i64), ?_, ?_⟩, ?_, ⟨hsz, fun i hi hP => ?_⟩⟩
    · refine ⟨by rw [List.length_map]; show _ = r.length * 1; omega, .inr ⟨g, cap, _, by rw [hrl], hg, (hb g hgs).trans (if_pos rfl), by rw [hrl]; exact hn, hm, ?_, ?_⟩⟩
      · simp only [putCells, Array.size_mapIdx]; exact hs
      · show List.take (r.length * 1) _ = _
        rw [Nat.mul_one]; exact take_put r cur (by rw [hrl]; exact hcs)
    · refine ⟨by rw [List.length_map]; show _ = r.length * 1; omega, fun j p hj => ?_⟩
      show ((r.map (Value.int .i64)).drop (j * 1)).take 1 = [Value.int .i64 p]; rw [Nat.mul_one]; obtain ⟨hj1, rfl⟩ := List.getElem?_eq_some_iff.1 hj; rw [List.drop_eq_getElem_cons (by rw [List.length_map]; exact hj1)]; simp
    · refine ⟨hB.os, hB.tape, hB.output, Nat.le_trans hB.size hsz, fun k hk => ?_⟩
      have hk2 : k < w.heap.size := Nat.lt_of_lt_of_le hk hB.size; rw [hb k hk2, if_neg (by omega)]; exact hB.block k hk
    · rw [hb i hi, if_neg (fun e : i = g => hP (by rw [e]; exact h0 g (by simp [Value.ownBlock])))]
end Go.Proofs.Ytcagkdgpoijkoaa.Sorted
end
section
namespace Go.Proofs.Ytcagkdgpoijkoaa.Mq
open Go.RowKit
set_option linter.unusedVariables false
set_option linter.unusedSimpArgs false
section
variable {P : Program} {ops : Array Oper} {rest : List Oper} {o : Oper} {a : Act} {Q : Exit → Act → World → Prop} {M Z : Nat → Prop} {w0 W : World} {R l : List Asr}
theorem wp_ldcells {ad : Addr} {n : Nat} (cs : List Value) (hc : ∀ (j : Nat) u, cs[j]? = some u → W.cell? (ad.add (n + j)) = some u) (hgd : o.guard = none) (t : TypeId) (p : Operand) (ho : o.op = .load t p) (hp : a.eval p = .pointer (some (ad.add n)))
    (d : TypeDesc) (hu : P.underlying t = some d) (hd : d.isRow = true) (hi : (P.info? t).map (·.size) = some cs.length)
    (h : wpList P ops Q rest (a.put o.dst (.agg cs.toArray)) W) : wpList P ops Q (o :: rest) a W := by
  refine wpList_plain hgd fun K hK => ?_
  have hl : (loadCells (ad.add n) cs.length).run P W = .ok cs.toArray W :=
    run_loadCells_list (P := P) W (ad.add n) cs (fun j v hv => by rw [add_add]; exact hc j v hv)
  cases hq : P.info? t with
  | none => simp [hq] at hi
  | some i =>
    have hs : i.size = cs.length := by simpa [hq] using hi
    have hagg : (isAgg t).run P W = .ok true W := by
      unfold isAgg; rw [Sem.run_bind, run_underlying hu W]; cases d <;> simp_all
    unfold Oper.wp execOp; simp only [ho, hp, Instr.loadAt, Instr.sureAddr, Sem.run_bind, Sem.run_pure, Result.andThen_ok, loadVar, hagg, sizeOf, typeInfo, hq, hs, hl, if_true]; simp [Sem.run_bind, typeInfo, hq, hs, hl, Result.andThen]; exact hK _ _ h
theorem wp_alloc (H : MemM M Z w0 W R l) (hgd : o.guard = none) (t : TypeId) (ho : o.op = .alloc t) (z : Value) (hz : (P.info? t).map (·.zero) = some (some z)) (cs : List Value) (hcs : z.cells.toList = cs)
    (h : ∀ g W1, MemM M Z w0 W1 R (box g t cs :: l) → wpList P ops Q rest (a.put o.dst (.pointer (some ⟨g, 0, none⟩))) W1) : wpList P ops Q (o :: rest) a W := by
  (refine wpList_plain hgd fun K hK => ?_); subst hcs
  cases hq : P.info? t with
  | none => simp [hq] at hz
  | some i =>
    (have hz' : i.zero = some z := by simpa [hq] using hz); unfold Oper.wp execOp; simp [ho, Instr.alloc, zeroValue, typeInfo, hq, hz', newVar, newRow, Result.andThen]; exact hK _ _ (h _ _ (by simpa using H.box t z.cells.toList))
theorem wp_stbox {g t0 : Nat} {cs : List Value} (H : MemM M Z w0 W R (box g t0 cs :: l)) (hgd : o.guard = none) (t : TypeId) (p x : Operand) (ho : o.op = .store t p x) (j : Nat) (hp : a.eval p = .pointer (some ⟨g, j, none⟩)) (v : Value) (hv : a.eval x = v)
    (xs : List Value) (hxs : v.cells.toList = xs) (hi : (P.info? t).map (·.size) = some xs.length) (h1 : xs.all (fun u => u.oneCell') = true) (hj : j + xs.length ≤ cs.length) (cs' : List Value) (hcs : cs.take j ++ xs ++ cs.drop (j + xs.length) = cs')
    (h : ∀ W1, MemM M Z w0 W1 R (box g t0 cs' :: l) → wpList P ops Q rest (a.put o.dst undef) W1) : wpList P ops Q (o :: rest) a W := by
  (refine wpList_plain hgd fun K hK => ?_); obtain ⟨F, S, ⟨hS, hg⟩, h2, h3, h4, h5, h6⟩ := H.open1; (have hlen : v.cells.size = xs.length := by rw [← hxs]; simp); have hst := run_storeCells_at P g j t0 xs 0 cs.toArray W hg (by simpa using hj) (List.all_eq_true.1 h1); simp only [Nat.add_zero] at hst
  cases hq : P.info? t with
  | none => simp [hq] at hi
  | some i =>
    have hs : i.size = xs.length := by simpa [hq] using hi
    have hrun : (Instr.storeAt t (.pointer (some ⟨g, j, none⟩)) v).run P W = .ok () (W.setRow g (cs.take j ++ xs ++ cs.drop (j + xs.length)).toArray) := by
      simp [Instr.storeAt, Instr.sureAddr, storeVar, sizeOf, typeInfo, hq, hs, hlen, hxs, Result.andThen]; simpa using hst
    unfold Oper.wp execOp; simp [ho, hp, hv, hrun, Result.andThen]; refine hK _ _ (h _ (h6 _ (box g t0 cs') (some g) ⟨rfl, rfl, rfl, by simp, fun k _ hk => setRow_other W g k _ (fun e => hk (by rw [e]))⟩ (fun k e => by cases e; exact hS) ⟨.inl hS, ?_⟩)); have := setRow_heap W g cs.toArray (cs.take j ++ xs ++ cs.drop (j + xs.length)).toArray t0 (0, 0) hg; rw [← hcs]; simpa using this
theorem wp_ldbox {g t0 : Nat} {cs : List Value} (hm : box g t0 cs ∈ l) (H : MemM M Z w0 W R l) (hgd : o.guard = none) (t : TypeId) (p : Operand) (ho : o.op = .load t p) (j n : Nat) (hp : a.eval p = .pointer (some ⟨g, j, none⟩))
    (d : TypeDesc) (hu : P.underlying t = some d) (hd : d.isRow = true) (xs : List Value) (hxs : (cs.drop j).take n = xs) (hi : (P.info? t).map (·.size) = some xs.length)
    (h : wpList P ops Q rest (a.put o.dst (.agg xs.toArray)) W) : wpList P ops Q (o :: rest) a W := by
  refine wpList_load_mid hgd t p ho g j hp xs d (fun i v hv => ?_) hu hd hi h; subst hxs; rw [List.getElem?_take] at hv; split at hv
  · rw [List.getElem?_drop] at hv
    exact (H.boxcell hm _ _ hv).1
  · cases hv
end
end Go.Proofs.Ytcagkdgpoijkoaa.Mq
end
section
namespace Go.Proofs.Ytcagkdgpoijkoaa.Mq
open Go.RowKit Go.Sort
set_option linter.unusedVariables false
theorem mem_of_below {W W' : World} (h : Below W.heap.size W W') : Mem W W' [] [] :=
  ⟨⟨⟨h.os, h.tape, h.output, h.size, fun k hk _ => h.block k hk⟩, fun _ h => h.elim⟩, fun _ => False, fun _ => False, fun _ h => h.elim, fun _ h => h.elim, fun _ h => h.elim, fun _ h => h.elim, fun _ h => h.elim, (fun a h => by cases h), trivial⟩
theorem mem_of_regrown {W W' : World} {p : Regrown} (h : W' = grow (redrawn W p.d) p.os) : Mem W W' [] [] := by
  subst h; exact mem_of_below (below_regrown _ _ _)
theorem calls_regrown {P : Program} {f : FuncId} {args : Array Value} {w : World} {d : Nat} {os : Array Obj} {v : Value}
    (h : ∀ W, Calls P f args W fun e W' => e = .returned v ∧ Mem W W' [] []) : Calls P f args (grow (redrawn w d) os) fun e w'' => e = .returned v ∧ ∃ p : Regrown, w'' = grow (redrawn w p.d) p.os :=
  Calls.regrown_of ((h _).mono fun e W' ⟨he, hm⟩ => ⟨he, MemM.below hm⟩)
theorem calls_regrown' {P : Program} {f : FuncId} {args : Array Value} {w : World} {d : Nat} {os : Array Obj} {v : Value}
    (h : ∀ W, Calls P f args W fun e W' => e = .returned v ∧ W = W') : Calls P f args (grow (redrawn w d) os) fun e w'' => e = .returned v ∧ ∃ p : Regrown, w'' = grow (redrawn w p.d) p.os :=
  calls_regrown fun W => (h W).mono fun e W' ⟨he, hm⟩ => ⟨he, by subst hm; exact MemM.start W⟩
end Go.Proofs.Ytcagkdgpoijkoaa.Mq
end
section
namespace Go.Proofs.Ytcagkdgpoijkoaa.Mq
open Go.RowKit
set_option linter.unusedVariables false
set_option linter.unusedSimpArgs false
section
variable {P : Program} {ops : Array Oper} {Q : Exit → Act → World → Prop} {md : Region.Mode} {S : World → Prop} {m : Nat}
def wpAnyM (P : Program) (md : Region.Mode) (ops : Array Oper) (Q : Exit → Act → World → Prop) (S : World → Prop) (m : Nat) : Nat → Array Bool → Act → World → Prop
  | 0, listed, a, w => Region.ready md ops listed = [] ∧ Q .normal a w
  | fuel + 1, listed, a, w =>
    (Region.ready md ops listed = [] → Q .normal a w) ∧
    ∀ i ∈ Region.ready md ops listed, wpOp P ops Q i (fun a' w' => (i < m → S w') ∧ wpAnyM P md ops Q S m fuel (listed.setIfInBounds i true) a' w') a w
theorem wpAny_of_M : ∀ (fuel : Nat) (listed : Array Bool) (a : Act) (w : World), wpAnyM P md ops Q S m fuel listed a w → wpAny P md ops Q fuel listed a w
  | 0, _, _, _, h => h
  | fuel + 1, _, _, _, h => ⟨h.1, fun i hi => wpOp_mono (fun a' w' h' => wpAny_of_M fuel _ a' w' h'.2) (h.2 i hi)⟩
theorem wpAnyM_first {i : Nat} {oi : Oper} {v : Value} (hi : ops[i]? = some oi) (hsel : ∀ (j : Nat) (o : Oper) cs b, ops[j]? = some o → o.op ≠ .select cs b)
    (hQ : ∀ c a w, Q (.panic c) (a.put oi.dst v) w → Q (.panic c) a w)
    (hw : ∀ t ot, ops[t]? = some ot → m ≤ t → ∃ e ∈ ot.after, Region.binds md e = true ∧ e.on = i) (him : i < m) :
    ∀ (fuel : Nat) (listed : Array Bool) (a : Act) (w : World),
      (∀ j oj, ops[j]? = some oj → j ≠ i → listed.getD j true = false → (∀ e ∈ oj.after, Region.binds md e = true → e.on ≠ i) → oi.apart ops oj = true) →
      i ∈ Region.ready md ops listed → YieldsIf P ops S oi v a → S w →
      wpAnyM P md ops Q S m fuel (listed.setIfInBounds i true) (a.put oi.dst v) w → wpAnyM P md ops Q S m (fuel + 1) listed a w := by
  intro fuel
  induction fuel with
  | zero =>
    intro listed a w _ hr hy hS H
    refine ⟨fun h => (by rw [h] at hr; cases hr), fun j hj => ?_⟩
    by_cases hji : j = i
    · subst hji; exact hy.wpOp hi hS ⟨fun _ => hS, H⟩
    · have := ready_mono hj hji
      rw [H.1] at this
      cases this
  | succ fuel ih =>
    intro listed a w hfree hr hy hS H
    refine ⟨fun h => (by rw [h] at hr; cases hr), fun j hj => ?_⟩
    by_cases hji : j = i
    · subst hji; exact hy.wpOp hi hS ⟨fun _ => hS, H⟩
    · have h1 := H.2 j (ready_mono hj hji)
      obtain ⟨hjun, oj, hoj, hall⟩ := mem_ready.1 hj
      have hnot : ∀ e ∈ oj.after, Region.binds md e = true → e.on ≠ i := fun e he hb heq => by
        have h1 := hall e he hb
        have h0 := (mem_ready.1 hr).1
        rw [heq] at h1
        rcases Nat.lt_or_ge i listed.size with h' | h'
        · simp [h'] at h0 h1; rw [h0] at h1; cases h1
        · simp [Array.getElem?_eq_none h'] at h1
      have hjm : j < m := by
        rcases Nat.lt_or_ge j m with h | h
        · exact h
        · obtain ⟨e, he, hb, hon⟩ := hw j oj hoj h
          exact absurd hon (hnot e he hb)
      have h2 := wpOp_putIf hoj (hfree j oj hoj hji hjun hnot) (fun cs b => hsel i oi cs b hi) (fun cs b => hsel j oj cs b hoj) hQ hy h1
      have hfree' : ∀ k ok, ops[k]? = some ok → k ≠ i → (listed.setIfInBounds j true).getD k true = false →
          (∀ e ∈ ok.after, Region.binds md e = true → e.on ≠ i) → oi.apart ops ok = true := fun k ok hk hki hun hno => by
        refine hfree k ok hk hki ?_ hno
        by_cases hjk : j = k
        · subst hjk; exact hjun
        · rw [getD_set_ne true hjk] at hun; exact hun
      refine wpOp_mono (fun a' w' h3 => ⟨h3.2.1, ih (listed.setIfInBounds j true) a' w' hfree' (ready_mono hr (Ne.symm hji)) h3.1 (h3.2.1 hjm) ?_⟩) h2
      rw [Array.setIfInBounds_comm _ _ hji]
      exact h3.2.2
def waitB (md : Region.Mode) (ops : Array Oper) (m i : Nat) : Bool := decide (i < m) && (List.range ops.size).all fun t => decide (t < m) || Region.waitsFor md ops t i
theorem waitB_spec {i : Nat} (h : waitB md ops m i = true) : i < m ∧ ∀ t ot, ops[t]? = some ot → m ≤ t → ∃ e ∈ ot.after, Region.binds md e = true ∧ e.on = i := by
  simp only [waitB, Bool.and_eq_true, decide_eq_true_eq] at h
  refine ⟨h.1, fun t ot ht hm => ?_⟩
  have h1 := List.all_eq_true.1 h.2 t (List.mem_range.2 (Array.getElem?_eq_some_iff.1 ht).1)
  simp only [Bool.or_eq_true, decide_eq_true_eq] at h1
  rcases h1 with h1 | h1
  · omega
  · obtain ⟨oj, hoj, e, he, hb⟩ := Region.waitsFor_spec h1
    rw [ht] at hoj
    injection hoj with hoj
    subst hoj
    exact ⟨e, he, hb⟩
theorem wpAnyM_take {i : Nat} {oi : Oper} {v : Value} {fuel : Nat} {listed : Array Bool} {a : Act} {w : World} (hi : ops[i]? = some oi)
    (hs : Region.noSelect ops = true) (hf : Region.free md ops listed i = true) (hr : (Region.ready md ops listed).contains i = true) (hw : waitB md ops m i = true)
    (hQ : ∀ c a w, Q (.panic c) (a.put oi.dst v) w → Q (.panic c) a w) (hS : S w) (hy : YieldsIf P ops S oi v a)
    (h : wpAnyM P md ops Q S m fuel (listed.setIfInBounds i true) (a.put oi.dst v) w) : wpAnyM P md ops Q S m (fuel + 1) listed a w :=
  wpAnyM_first hi (Region.noSelect_spec hs) hQ (waitB_spec hw).2 (waitB_spec hw).1 fuel listed a w (Region.free_spec hi hf) (by simpa using hr) hy hS h
theorem oper_back {o : Oper} {a : Act} {w : World} {K K' : Act → World → Prop} (hh : o.wp P a w K (Exit.then K' Q)) : o.wp P a w K Q := by
  unfold Oper.wp at *
  generalize (execOp a.eval o).run P w = r at *
  cases r with
  | ok n w' =>
    cases n <;> simp only [Oper.upon] at hh ⊢ <;>
      first
        | exact hh
        | exact Calls.mono hh (fun e w'' he => by cases e <;> exact he)
  | halt x w' => cases x <;> simp only [Oper.upon] at hh ⊢ <;> exact hh
theorem wpAnyM_one {i : Nat} {o : Oper} {fuel : Nat} {listed : Array Bool} {a : Act} {w : World} (ho : ops[i]? = some o) (hr : Region.ready md ops listed = [i])
    (h : ∀ K' : Act → World → Prop, Hid (∀ a w, (i < m → S w) → wpAnyM P md ops Q S m fuel (listed.setIfInBounds i true) a w → K' a w) → wpList P ops (Exit.then K' Q) [o] a w) : wpAnyM P md ops Q S m (fuel + 1) listed a w := by
  refine ⟨fun h0 => (by rw [hr] at h0; cases h0), fun j hj => ?_⟩
  rw [hr] at hj
  obtain rfl := List.mem_singleton.1 hj
  have h1 := h (fun a' w' => (j < m → S w') ∧ wpAnyM P md ops Q S m fuel (listed.setIfInBounds j true) a' w') (fun a w h2 h3 => ⟨h2, h3⟩)
  unfold wpOp
  simp only [ho]
  unfold wpList at h1
  split
  · rename_i hw
    rw [if_pos hw] at h1
    exact h1.imp (fun h => Oper.wp_mono (fun _ _ h => h) (oper_back h)) (fun h => ⟨h.1, h.2⟩)
  · rename_i hw
    rw [if_neg hw] at h1
    exact h1
theorem wpAnyM_two {i j : Nat} {o o' : Oper} {fuel : Nat} {listed : Array Bool} {a : Act} {w : World} (ho : ops[i]? = some o) (ho' : ops[j]? = some o') (hr : Region.ready md ops listed = [i, j])
    (h : ∀ K' : Act → World → Prop, Hid (∀ a w, (i < m → S w) → wpAnyM P md ops Q S m fuel (listed.setIfInBounds i true) a w → K' a w) → wpList P ops (Exit.then K' Q) [o] a w)
    (h' : ∀ K' : Act → World → Prop, Hid (∀ a w, (j < m → S w) → wpAnyM P md ops Q S m fuel (listed.setIfInBounds j true) a w → K' a w) → wpList P ops (Exit.then K' Q) [o'] a w) : wpAnyM P md ops Q S m (fuel + 1) listed a w := by
  have go : ∀ {k : Nat} {o : Oper}, ops[k]? = some o → (∀ K' : Act → World → Prop, Hid (∀ a w, (k < m → S w) → wpAnyM P md ops Q S m fuel (listed.setIfInBounds k true) a w → K' a w) → wpList P ops (Exit.then K' Q) [o] a w) →
      wpOp P ops Q k (fun a' w' => (k < m → S w') ∧ wpAnyM P md ops Q S m fuel (listed.setIfInBounds k true) a' w') a w := by
    intro k o ho h
    have h1 := h (fun a' w' => (k < m → S w') ∧ wpAnyM P md ops Q S m fuel (listed.setIfInBounds k true) a' w') (fun a w h2 h3 => ⟨h2, h3⟩)
    unfold wpOp
    simp only [ho]
    unfold wpList at h1
    split
    · rename_i hw
      rw [if_pos hw] at h1
      exact h1.imp (fun h => Oper.wp_mono (fun _ _ h => h) (oper_back h)) (fun h => ⟨h.1, h.2⟩)
    · rename_i hw
      rw [if_neg hw] at h1
      exact h1
  refine ⟨fun h0 => (by rw [hr] at h0; cases h0), fun k hk => ?_⟩
  rw [hr] at hk
  rcases List.mem_cons.1 hk with rfl | hk
  · exact go ho h
  · obtain rfl := List.mem_singleton.1 hk
    exact go ho' h'
theorem wpAnyM_done {listed : Array Bool} {a : Act} {w : World} (hr : Region.ready md ops listed = []) (h : Q .normal a w) : ∀ fuel, wpAnyM P md ops Q S m fuel listed a w
  | 0 => ⟨hr, h⟩
  | _ + 1 => ⟨fun _ => h, by rw [hr]; simp⟩
theorem wp_region_mix {id : Nat} {a : Act} {w : World} (m : Nat) (S : World → Prop) (hm : P.follows .mixedOrders = true)
    (h : wpAnyM P .any ops Q S m ops.size (Array.replicate ops.size false) a w.drew) : (Code.region id ops true).wp P Q a w :=
  wp_region_any hm (wpAny_of_M _ _ _ _ h)
end
end Go.Proofs.Ytcagkdgpoijkoaa.Mq
end
section
namespace Go.Proofs.Ytcagkdgpoijkoaa.Of
open Go.RowKit Go.Proofs.Ytcagkdgpoijkoaa.Mq Go.Proofs.Ytcagkdgpoijkoaa.OfP
set_option linter.unusedVariables false
set_option linter.unusedSimpArgs false
theorem sort_mem {M Z : Nat → Prop} {w0 W : World} {R l : List Asr} {v : Value} {xs : List Int} (H : MemM M Z w0 W R (own (int .i64) 3 v xs :: l)) (hl : xs.length < 4611686018427387904) :
    Calls Try.prog 27 #[v] W fun e W1 => e = .returned (.tuple #[]) ∧ MemM M Z w0 W1 R (own (int .i64) 3 v (xs.mergeSort le) :: l) := by
  obtain ⟨F, S, ⟨h1, cells, ho, hr⟩, h2, h3, h4, h5, h6⟩ := H.open1
  refine (Sorted.sort_calls (fun k => v.ownBlock = some k) v xs (xs.mergeSort le) { W with heap := #[] } W ⟨rfl, rfl, rfl, Nat.zero_le _, fun k hk => absurd hk (by simp)⟩ ⟨fun k hk => hk, cells, ho, hr⟩ hl rfl).mono ?_
  rintro e w' ⟨rfl, ⟨_, cells', ho', hr'⟩, hB, hK⟩
  exact ⟨rfl, h6 w' (own (int .i64) 3 v (xs.mergeSort le)) v.ownBlock ⟨hB.os, hB.tape, hB.output, hK.1, fun k hk hne => hK.2 k hk (fun e => hne e.symm)⟩ (fun k e => h1 k e) ⟨fun k hk => .inl (h1 k hk), cells', ho', hr'⟩⟩
theorem info_ints : (Try.prog.info? 29).map (fun i => (i.zero, i.size, i.bytes)) = some (some (.slice none 0 0), 1, 24) := by kernel_rfl
theorem info_int : (Try.prog.info? 3).map (fun i => (i.zero, i.size, i.bytes)) = some (some (.int .i64 0), 1, 8) := by kernel_rfl
theorem info_at : (Try.prog.info? 41).map (·.zero) = some (some (.agg #[.bool false, .int .i64 0, .int .i64 0, .int .u8 0])) := by kernel_rfl
theorem spelled {W : World} {cs : List Value} {ad : Addr} {n : Nat} (h : ∀ (j : Nat) u, cs[j]? = some u → W.cell? (ad.add (n + j)) = some u) (j : Nat) (u : Value) (hj : cs[j + 1]? = some u) : W.cell? ⟨(ad.add n).block, (ad.add n).off + (j + 1), none⟩ = some u := by
  have h1 := h (j + 1) u hj
  rw [← add_add] at h1
  simpa [Addr.add] using h1
theorem ed0 {w : World} {S : Nat → Prop} {A : Option Addr} {xs : List Ed} (h : Row edR w S A xs) {i : Nat} {e : Ed} (hx : xs[i]? = some e) : ∃ ad, A = some ad ∧ w.cell? (ad.add (i * 4)) = some (.int .i64 e.frm) := by
  obtain ⟨ad, cs, rfl, _, hK, hc⟩ := h.at_ hx
  obtain ⟨c, cs', rfl, hc0, _⟩ := hK
  cases hc0
  exact ⟨ad, rfl, hc 0 _ rfl⟩
theorem oldcell {w W : World} {R l : List Asr} (H : Mem w W R l) {a : Addr} {v : Value} (h : w.cell? a = some v) : W.cell? a = some v := by
  rw [(MemM.below H).cell (block_lt_of_cell h)]; exact h
theorem swapIn {M Z : Nat → Prop} {w0 W : World} {R l1 l2 l3 : List Asr} {a new old : Asr} (H : MemM M Z w0 W R (a :: new :: (l1 ++ old :: l2 ++ l3))) : MemM M Z w0 W R (a :: (l1 ++ new :: l2 ++ l3)) := by
  have p : (a :: new :: (l1 ++ old :: l2 ++ l3)).Perm (old :: a :: (l1 ++ new :: l2 ++ l3)) := by
    rw [List.append_assoc, List.append_assoc, List.cons_append, List.cons_append]
    refine (List.Perm.cons a (List.Perm.cons new List.perm_middle)).trans ?_
    refine (List.Perm.cons a (List.Perm.swap old new _)).trans ?_
    refine (List.Perm.swap old a _).trans ?_
    exact List.Perm.cons old (List.Perm.cons a List.perm_middle.symm)
  exact (H.perm p).drop
set_option maxHeartbeats 4000000 in
set_option maxRecDepth 100000 in
theorem of_calls {w : World} {A0 A1 A2 AL : Option Addr} {o : List Bool} {s : List Int} {es : List (List Ed)} {l : List At} {c0 c1 c2 cL : Nat} (hO : Row bool w (· < w.heap.size) A0 o) (hS : Row (int .i64) w (· < w.heap.size) A1 s) (hE : Row (slice edR) w (· < w.heap.size) A2 es) (hL : Row atR w (· < w.heap.size) AL l) (hol : o.length ≤ 1000000000) (offs : Nat → List At)
    (hoff : Hid (∀ (k : Nat) W, k < o.length → Below w.heap.size w W → Calls Try.prog 12 #[.agg #[.slice A0 o.length c0, .slice A1 s.length c1, .slice A2 es.length c2], .slice AL l.length cL, .int .i64 k] W fun e W' => ∃ v, e = .returned v ∧ Mem W W' [] [own atR 41 v (offs k)]))
    (hlen : Hid (∀ k, k < o.length → (offs k).length ≤ (es.getD k []).length)) (hshort : Hid (∀ k, k < o.length → (offs k).length ≤ 1000000000))
    (hsame : Hid (∀ (a b : At) W, Calls Try.prog 13 #[.agg a.enc.toArray, .agg b.enc.toArray] W fun e W' => e = .returned (.bool (sameB a b)) ∧ Mem W W' [] [])) :
    Calls Try.prog 11 #[.agg #[.slice A0 o.length c0, .slice A1 s.length c1, .slice A2 es.length c2], .slice AL l.length cL] w fun e W => ∃ v, e = .returned v ∧ Mem w W [] [own (slice (int .i64)) 29 v (ofB o s es l offs)] := by
  have H := (MemM.start w).box 32 [.slice A0 o.length c0, .slice A1 s.length c1, .slice A2 es.length c2]
  have hsl := hS.len
  have hll := hL.len
  unfold maxLen at hsl hll
  go_enter Try.func11, Try.ntmps11
  go_wp2_with (first | ((with_reducible refine gate_dst (N := 12) rfl ?_); refine wp_make H raw 29 rfl 44 _ _ rfl o.length rfl rfl Try.underlying44 (.slice none 0 0) 24 info_ints rfl (by decide) (by decide) nilCell (fun _ => rfl) (by omega) ?_; clear H; intro g5 W5 H))
  generalize w.heap.size = g at H ⊢
  have H := (MemM.nilRows H (int .i64) 3 o.length).pull
  have hdef : Hid (ofB o s es l offs = ofN (ofRow o s es l offs) o.length o.length) := rfl
  have hrow : Hid (∀ k, ofRow o s es l offs k = match way o s l k with | .none => [] | .one x => [x] | .all a => (pick a (offs k) (es.getD k [])).mergeSort le) := fun _ => rfl
  generalize ofRow o s es l offs = row at hdef hrow
  rw [← ofN_zero row o.length] at H
  go_loopw [15] (fun v15 W => ∃ (k : Nat) (vs : List Cell), k ≤ o.length ∧ v15 = .int .i64 k ∧ Hid (vs.length = o.length) ∧ Mem w W [] (own raw 29 (.slice (some ⟨g5, 0, none⟩) o.length o.length) vs :: (rowsOf (int .i64) 3 vs (ofN row o.length k) ++ [box g 32 [.slice A0 o.length c0, .slice A1 s.length c1, .slice A2 es.length c2]]))) (fun v15 _ => o.length - (intOf v15).toNat)
  case atStart => exact ⟨0, _, Nat.zero_le _, rfl, by simp [Hid], H⟩
  case round =>
    clear H
    obtain ⟨k, vs, hk, rfl, hvs, H⟩ := hrel
    by_cases hlt : k < o.length
    · obtain ⟨b, hob⟩ : ∃ b, o[k]? = some b := ⟨_, List.getElem?_eq_getElem hlt⟩
      obtain ⟨ad0, rfl, hx0⟩ := H.bool_at hO hob
      have x0 := (H.boxcell ((List.mem_cons_of_mem _ (List.mem_append_right _ (.head _)))) 0 _ rfl).1
      have x1 := (H.boxcell ((List.mem_cons_of_mem _ (List.mem_append_right _ (.head _)))) 1 _ rfl).1
      have x2 := (H.boxcell ((List.mem_cons_of_mem _ (List.mem_append_right _ (.head _)))) 2 _ rfl).1
      cases b
      · have hway : Hid (way o s l k = match s[k]? with | some x => if 0 ≤ x then .one x else (match l[k]? with | some a => if a.ok then .all a else .none | none => .none) | none => (match l[k]? with | some a => if a.ok then .all a else .none | none => .none)) := by unfold Hid way; rw [List.getD_eq_getElem?_getD, hob]; rfl
        clear hob
        have hget := hide (ofN_get row o.length k hlt)
        have hnext := hide (ofN_next row o.length k)
        have hsm := hide (ofN_same row o.length k)
        have hlk := hlen.out k hlt
        have hsk := hshort.out k hlt
        have hrk := hide (hrow.out k)
        by_cases hone : ∃ x, s[k]? = some x ∧ 0 ≤ x
        · obtain ⟨x, hsx, hx⟩ := hone
          have hks : k < s.length := (List.getElem?_eq_some_iff.1 hsx).1
          have hrk := hide (show row k = [x] by rw [hrk.out, hway.out, hsx]; simp [hx])
          obtain ⟨ad1, rfl, hx1⟩ := H.int_at hS hsx
          clear hsx hway hsm
          obtain ⟨⟨v, hv1⟩, hv⟩ : ∃ v, vs[k]? = some v := ⟨_, List.getElem?_eq_getElem (by rw [hvs.out]; exact hlt)⟩
          obtain ⟨l1, l2, e1, e2⟩ := rowsOf_split (int .i64) 3 (by rw [hvs.out, ofN_len]) hv hget.out
          have e2 := hide e2
          have hvv := hide hv
          rw [e1] at H
          clear e1 hv
          go_wp2_with (first
            | ((with_reducible refine gate_dst (N := 45) rfl ?_); refine wp_lit H (int .i64) 3 [x] [.int .i64 x] rfl (by first | (go_simp; done) | (go_simp; rfl)) (fun _ _ => Reps.single rfl rfl) (Nat.le_of_ble_eq_true rfl) ?_; clear H x0 x1 x2 hx0 hx1; intro g45 W1 H; obtain ⟨u, hu, hc1, hf1⟩ := H.cell1 (.tail _ (.head _)) hvv.out; clear hu))
          have H := swapIn (MemM.set1 H.pull1 (i := k) (by rw [hvs.out]; exact hlt) (x' := slCell (some ⟨g45, 0, none⟩) 1 1) (u := .slice (some ⟨g45, 0, none⟩) 1 1) (fun _ _ => rfl))
          have e3 := e2.out (slCell (some ⟨g45, 0, none⟩) 1 1) [x]
          rw [← hrk.out, hnext.out, hrk.out] at e3
          go_roundw
          case rel => exact ⟨k + 1, vs.set k (slCell (some ⟨g45, 0, none⟩) 1 1), by omega, by go_num, by rw [Hid, List.length_set]; exact hvs.out, by rw [e3]; exact H⟩
          case measure => simp [intOf]; omega
        · have hsf : (¬ k < s.length) ∨ ∃ ad1 x, A1 = some ad1 ∧ k < s.length ∧ ¬ 0 ≤ x ∧ wr.cell? (ad1.add k) = some (.int .i64 x) := by
            by_cases hks : k < s.length
            · obtain ⟨ad1, e1, hx1⟩ := H.int_at hS (List.getElem?_eq_getElem hks)
              exact .inr ⟨ad1, _, e1, hks, fun h => hone ⟨_, List.getElem?_eq_getElem hks, h⟩, hx1⟩
            · exact .inl hks
          have hwl : Hid (way o s l k = match l[k]? with | some a => if a.ok then .all a else .none | none => .none) := by
            rw [Hid, hway.out]
            cases hsk : s[k]? with
            | none => rfl
            | some x =>
              have : ¬ 0 ≤ x := fun h => hone ⟨x, hsk, h⟩
              simp [this]
          clear hway hone
          by_cases hall : ∃ a, l[k]? = some a ∧ a.ok = true
          · obtain ⟨⟨aok, apref, acost, atags⟩, hla, hok⟩ := hall
            simp only at hok
            subst hok
            have hkl : k < l.length := (List.getElem?_eq_some_iff.1 hla).1
            have hrk := hide (show row k = (pick ⟨true, apref, acost, atags⟩ (offs k) (es.getD k [])).mergeSort le by rw [hrk.out, hwl.out, hla]; rfl)
            clear hwl hsm
            obtain ⟨adL, rfl, hxl⟩ := (H.arg hL).flat1 hla
            have hl0 := hxl 0 _ rfl
            simp only [Nat.add_zero] at hl0
            clear hxl
            have hLk : Hid (∀ W R l', Mem w W R l' → W.cell? (adL.add (k * 4)) = some (.bool true) ∧ W.cell? ⟨(adL.add (k * 4)).block, (adL.add (k * 4)).off + (0 + 1), none⟩ = some (.int .i64 apref) ∧ W.cell? ⟨(adL.add (k * 4)).block, (adL.add (k * 4)).off + (1 + 1), none⟩ = some (.int .i64 acost) ∧ W.cell? ⟨(adL.add (k * 4)).block, (adL.add (k * 4)).off + (2 + 1), none⟩ = some (.int .u8 atags)) := fun W R l' HW => by
              obtain ⟨_, e, hx⟩ := (HW.arg hL).flat1 hla
              cases e
              exact ⟨hx 0 _ rfl, spelled hx 0 _ rfl, spelled hx 1 _ rfl, spelled hx 2 _ rfl⟩
            clear hla
            have hek : Hid (∀ i, i < (es.getD k []).length → es[k]? = some (es.getD k [])) := fun i hi => by
              rw [List.getD_eq_getElem?_getD] at hi ⊢
              cases he : es[k]? with
              | none => rw [he] at hi; simp at hi
              | some x => rfl
            generalize es.getD k [] = ek at hek hrk hlk
            rcases hsf with hks | ⟨ad1, x, rfl, hks, hxn, hx1⟩
            all_goals
              go_wp2_with (first
                | ((with_reducible refine gate_dst (N := 59) rfl ?_); refine wp_ldbox (List.mem_cons_of_mem _ (List.mem_append_right _ (.head _))) H rfl _ _ rfl 0 3 rfl _ Try.underlying32 rfl _ rfl (by kernel_rfl) ?_)
                | (go_at_call 12; refine (hoff.out k _ hlt (MemM.below H)).mono ?_; rintro e W6 ⟨v8, rfl, hm⟩; replace H := H.call hm; clear hm x0 x1 x2 hx0 hl0; obtain ⟨A8, c8, rfl⟩ := H.one (.head _)))
              first | (generalize hvS : Value.slice (some ad1) s.length c1 = vS at H) | (generalize hvS : Value.slice A1 s.length c1 = vS at H)
              have hvS := hide hvS
              have hst : Hid ((ofN row o.length k).set k (pick ⟨true, apref, acost, atags⟩ ((offs k).take 0) ek) = ofN row o.length k) := by
                rw [Hid, List.take_zero, pick_zero]
                apply List.ext_getElem?
                intro j
                rw [List.getElem?_set]
                split
                · rename_i hj; subst hj; rw [hget.out]; simp [ofN_len, hlt]
                · rfl
              rw [← hst.out] at H
              clear hst
              go_loopw [64] (fun v64 W => ∃ (i : Nat) (vs : List Cell), i ≤ (offs k).length ∧ v64 = .int .i64 i ∧ Hid (vs.length = o.length) ∧ Mem w W [] (own atR 41 (.slice A8 (offs k).length c8) (offs k) :: own raw 29 (.slice (some ⟨g5, 0, none⟩) o.length o.length) vs :: (rowsOf (int .i64) 3 vs ((ofN row o.length k).set k (pick ⟨true, apref, acost, atags⟩ ((offs k).take i) ek)) ++ [box g 32 [.slice (some ad0) o.length c0, vS, .slice A2 es.length c2]]))) (fun v64 _ => (offs k).length - (intOf v64).toNat)
              case atStart => exact ⟨0, vs, Nat.zero_le _, rfl, hvs, H⟩
              case round =>
                clear H hvs
                obtain ⟨i, vs, hi, rfl, hvs, H⟩ := hrel
                by_cases hil : i < (offs k).length
                · obtain ⟨⟨xo, xp, xc, xt⟩, hxi⟩ : ∃ x, (offs k)[i]? = some x := ⟨_, List.getElem?_eq_getElem hil⟩
                  obtain ⟨e, hei⟩ : ∃ e, ek[i]? = some e := ⟨_, List.getElem?_eq_getElem (by omega)⟩
                  have hpn := hide (pick_next ⟨true, apref, acost, atags⟩ (offs k) ek i ⟨xo, xp, xc, xt⟩ e hxi hei)
                  have hek1 := hek.out i (by omega)
                  obtain ⟨-, -, hof⟩ := H.rdx (.head _)
                  obtain ⟨ad8, rfl, hx8⟩ := hof.flat1 hxi
                  have hx8 := hide hx8
                  clear hof hxi
                  have hsm1 : Hid (∀ W, Calls Try.prog 13 #[.agg #[.bool xo, .int .i64 xp, .int .i64 xc, .int .u8 xt], .agg #[.bool true, .int .i64 apref, .int .i64 acost, .int .u8 atags]] W fun e W' => e = .returned (.bool (sameB ⟨xo, xp, xc, xt⟩ ⟨true, apref, acost, atags⟩)) ∧ Mem W W' [] []) := fun W => hsame.out ⟨xo, xp, xc, xt⟩ ⟨true, apref, acost, atags⟩ W
                  generalize sameB ⟨xo, xp, xc, xt⟩ ⟨true, apref, acost, atags⟩ = m at hpn hsm1
                  go_wp2_with (first
                    | ((with_reducible refine gate_dst (N := 68) rfl ?_); refine wp_ldcells [.bool xo, .int .i64 xp, .int .i64 xc, .int .u8 xt] hx8.out rfl _ _ rfl rfl _ Try.underlying41 rfl (by kernel_rfl) ?_)
                    | ((with_reducible refine gate_dst (N := 8) rfl ?_); refine wp_alloc H rfl _ rfl _ info_at _ rfl ?_; clear H hx8; intro ga W1 H)
                    | (refine wp_stbox H rfl _ _ _ rfl 0 rfl _ rfl _ rfl (by kernel_rfl) rfl (Nat.le_of_ble_eq_true rfl) [.bool xo, .int .i64 xp, .int .i64 xc, .int .u8 xt] rfl ?_; clear H; intro W2 H; have y0 := (H.boxcell (.head _) 0 _ rfl).1; have y1 := (H.boxcell (.head _) 1 _ rfl).1; have y2 := (H.boxcell (.head _) 2 _ rfl).1; have y3 := (H.boxcell (.head _) 3 _ rfl).1; obtain ⟨m0, m1, m2, m3⟩ := hLk.out _ _ _ H))
                  replace y0 := cell_regrown y0
                  replace y1 := cell_regrown y1
                  replace y2 := cell_regrown y2
                  replace y3 := cell_regrown y3
                  replace m0 := cell_regrown m0
                  replace m1 := cell_regrown m1
                  replace m2 := cell_regrown m2
                  replace m3 := cell_regrown m3
                  refine wp_region_quiet_below (by kernel_rfl) (by kernel_rfl) ?_
                  repeat (first | go_big_quiet_skip | (go_big_quiet_want; go_big_quiet_op; first | go_big_quiet_on | (apply Exists.intro; refine ⟨fun _ => ?_, ?_⟩; ((go_at_call 13; exact calls_regrown hsm1.out)); go_big_quiet_on)))
                  refine wpQuiet_nil ?_
                  intro Wq hw'
                  obtain ⟨pq, hw''⟩ := hw'
                  have hq := mem_of_regrown hw''
                  clear hw''
                  have H := (H.call hq).drop
                  clear y0 y1 y2 y3 m0 m1 m2 m3
                  cases m
                  · have hpn := hide (show pick ⟨true, apref, acost, atags⟩ ((offs k).take (i + 1)) ek = pick ⟨true, apref, acost, atags⟩ ((offs k).take i) ek by rw [hpn.out]; simp)
                    go_wp2
                    go_roundw
                    case rel => exact ⟨i + 1, vs, by omega, by go_num, hvs, by rw [hpn.out]; exact H⟩
                    case measure => simp [intOf]; omega
                  · have hpq := hide (show pick ⟨true, apref, acost, atags⟩ ((offs k).take (i + 1)) ek = pick ⟨true, apref, acost, atags⟩ ((offs k).take i) ek ++ [e.frm] by rw [hpn.out]; simp)
                    clear hpn
                    have hln := pick_len ⟨true, apref, acost, atags⟩ ((offs k).take i) ek
                    rw [List.length_take] at hln
                    generalize pick ⟨true, apref, acost, atags⟩ ((offs k).take i) ek = acc at hpq hln H
                    obtain ⟨ad2, A', c', e2', hE1, -, hEk⟩ := (MemM.start w).row_at hE hek1
                    cases e2'
                    obtain ⟨adE, e3', hfr⟩ := ed0 hEk hei
                    cases e3'
                    have hkes : k < es.length := (List.getElem?_eq_some_iff.1 hek1).1
                    have hie : i < ek.length := (List.getElem?_eq_some_iff.1 hei).1
                    clear hEk hek1 hei
                    have hget2 := hide (set_get (ofN row o.length k) k acc (by rw [ofN_len]; exact hlt))
                    obtain ⟨⟨v, hv1⟩, hv⟩ : ∃ v, vs[k]? = some v := ⟨_, List.getElem?_eq_getElem (by rw [hvs.out]; exact hlt)⟩
                    obtain ⟨l1, l2, e1, e2⟩ := rowsOf_split (int .i64) 3 (by rw [hvs.out, List.length_set, ofN_len]) hv hget2.out
                    have e2 := hide e2
                    have hvv := hide hv
                    rw [e1] at H
                    clear e1 hv
                    obtain ⟨A, c, rfl⟩ := H.one (d := int .i64) (e := 3) (v := v) (xs := acc) (by simp)
                    rw [show ∀ (a r b c : Asr) (l1 l2 : List Asr), a :: r :: (l1 ++ b :: l2 ++ [c]) = (a :: r :: l1) ++ b :: (l2 ++ [c]) from fun a r b c l1 l2 => by simp] at H
                    have H := H.pull
                    have hSof : Hid (∀ W' l', Mem w W' [] l' → own raw 29 (.slice (some ⟨g5, 0, none⟩) o.length o.length) vs ∈ l' → box g 32 [.slice (some ad0) o.length c0, vS, .slice (some ad2) es.length c2] ∈ l' → (W'.cell? ⟨g5, k, none⟩ = some (.slice A acc.length c) ∧ W'.cell? ⟨g, 2, none⟩ = some (.slice (some ad2) es.length c2) ∧ W'.cell? (ad2.add k) = some (.slice (some adE) ek.length c') ∧ W'.cell? (adE.add (i * 4)) = some (.int .i64 e.frm))) := fun W' l' HW h1 h2 => by
                      obtain ⟨u, hu, hc, _⟩ := HW.cell1 h1 hvv.out
                      cases hu
                      exact ⟨hc, (HW.boxcell h2 2 _ rfl).1, oldcell HW hE1, oldcell HW hfr⟩
                    clear hE1 hfr
                    go_wp2_with fail
                    refine wp_region_mix 17 (fun W' => W'.cell? ⟨g5, k, none⟩ = some (.slice A acc.length c) ∧ W'.cell? ⟨g, 2, none⟩ = some (.slice (some ad2) es.length c2) ∧ W'.cell? (ad2.add k) = some (.slice (some adE) ek.length c') ∧ W'.cell? (adE.add (i * 4)) = some (.int .i64 e.frm)) (by kernel_rfl) ?_
                    replace H := H.drew
                    have hS := hSof.out _ _ H (.tail _ (.tail _ (.head _))) (by simp)
                    refine wpAnyM_take (i := 0) (v := ?_) rfl (by kernel_rfl) (by kernel_rfl) (by kernel_rfl) (by kernel_rfl) (fun _ _ _ h => h) hS (Or.inl ⟨by rfl, ?_⟩) ?_
                    rotate_left
                    · intro w1 hS1
                      (try dsimp only at hS1)
                      go_simp
                      try with_reducible rfl
                    simp only [Act.put, List.getElem_toArray, List.getElem_cons_succ, List.getElem_cons_zero, List.setIfInBounds_toArray, List.set_cons_zero, List.set_cons_succ]
                    refine wpAnyM_take (i := 1) (v := ?_) rfl (by kernel_rfl) (by kernel_rfl) (by kernel_rfl) (by kernel_rfl) (fun _ _ _ h => h) hS (Or.inl ⟨by rfl, ?_⟩) ?_
                    rotate_left
                    · intro w1 hS1
                      (try dsimp only at hS1)
                      go_simp
                      try with_reducible rfl
                    simp only [Act.put, List.getElem_toArray, List.getElem_cons_succ, List.getElem_cons_zero, List.setIfInBounds_toArray, List.set_cons_zero, List.set_cons_succ]
                    refine wpAnyM_take (i := 2) (v := ?_) rfl (by kernel_rfl) (by kernel_rfl) (by kernel_rfl) (by kernel_rfl) (fun _ _ _ h => h) hS (Or.inl ⟨by rfl, ?_⟩) ?_
                    rotate_left
                    · intro w1 hS1
                      (try dsimp only at hS1)
                      go_simp
                      try with_reducible rfl
                    simp only [Act.put, List.getElem_toArray, List.getElem_cons_succ, List.getElem_cons_zero, List.setIfInBounds_toArray, List.set_cons_zero, List.set_cons_succ]
                    refine wpAnyM_take (i := 3) (v := ?_) rfl (by kernel_rfl) (by kernel_rfl) (by kernel_rfl) (by kernel_rfl) (fun _ _ _ h => h) hS (Or.inl ⟨by rfl, ?_⟩) ?_
                    rotate_left
                    · intro w1 hS1
                      (try dsimp only at hS1)
                      go_simp
                      try with_reducible rfl
                    simp only [Act.put, List.getElem_toArray, List.getElem_cons_succ, List.getElem_cons_zero, List.setIfInBounds_toArray, List.set_cons_zero, List.set_cons_succ]
                    refine wpAnyM_take (i := 4) (v := ?_) rfl (by kernel_rfl) (by kernel_rfl) (by kernel_rfl) (by kernel_rfl) (fun _ _ _ h => h) hS (Or.inl ⟨by rfl, ?_⟩) ?_
                    rotate_left
                    · intro w1 hS1
                      (try dsimp only at hS1)
                      go_simp
                      try with_reducible rfl
                    simp only [Act.put, List.getElem_toArray, List.getElem_cons_succ, List.getElem_cons_zero, List.setIfInBounds_toArray, List.set_cons_zero, List.set_cons_succ]
                    refine wpAnyM_take (i := 5) (v := ?_) rfl (by kernel_rfl) (by kernel_rfl) (by kernel_rfl) (by kernel_rfl) (fun _ _ _ h => h) hS (Or.inl ⟨by rfl, ?_⟩) ?_
                    rotate_left
                    · intro w1 hS1
                      (try dsimp only at hS1)
                      go_simp
                      try with_reducible rfl
                    simp only [Act.put, List.getElem_toArray, List.getElem_cons_succ, List.getElem_cons_zero, List.setIfInBounds_toArray, List.set_cons_zero, List.set_cons_succ]
                    refine wpAnyM_take (i := 6) (v := ?_) rfl (by kernel_rfl) (by kernel_rfl) (by kernel_rfl) (by kernel_rfl) (fun _ _ _ h => h) hS (Or.inl ⟨by rfl, ?_⟩) ?_
                    rotate_left
                    · intro w1 hS1
                      (try dsimp only at hS1)
                      go_simp
                      try with_reducible rfl
                    simp only [Act.put, List.getElem_toArray, List.getElem_cons_succ, List.getElem_cons_zero, List.setIfInBounds_toArray, List.set_cons_zero, List.set_cons_succ]
                    refine wpAnyM_take (i := 7) (v := ?_) rfl (by kernel_rfl) (by kernel_rfl) (by kernel_rfl) (by kernel_rfl) (fun _ _ _ h => h) hS (Or.inl ⟨by rfl, ?_⟩) ?_
                    rotate_left
                    · intro w1 hS1
                      (try dsimp only at hS1)
                      go_simp
                      try with_reducible rfl
                    simp only [Act.put, List.getElem_toArray, List.getElem_cons_succ, List.getElem_cons_zero, List.setIfInBounds_toArray, List.set_cons_zero, List.set_cons_succ]
                    refine wpAnyM_take (i := 8) (v := ?_) rfl (by kernel_rfl) (by kernel_rfl) (by kernel_rfl) (by kernel_rfl) (fun _ _ _ h => h) hS (Or.inl ⟨by rfl, ?_⟩) ?_
                    rotate_left
                    · intro w1 hS1
                      (try dsimp only at hS1)
                      go_simp
                      try with_reducible rfl
                    simp only [Act.put, List.getElem_toArray, List.getElem_cons_succ, List.getElem_cons_zero, List.setIfInBounds_toArray, List.set_cons_zero, List.set_cons_succ]
                    refine wpAnyM_take (i := 9) (v := ?_) rfl (by kernel_rfl) (by kernel_rfl) (by kernel_rfl) (by kernel_rfl) (fun _ _ _ h => h) hS (Or.inl ⟨by rfl, ?_⟩) ?_
                    rotate_left
                    · intro w1 hS1
                      (try dsimp only at hS1)
                      go_simp
                      try with_reducible rfl
                    simp only [Act.put, List.getElem_toArray, List.getElem_cons_succ, List.getElem_cons_zero, List.setIfInBounds_toArray, List.set_cons_zero, List.set_cons_succ]
                    refine wpAnyM_take (i := 10) (v := ?_) rfl (by kernel_rfl) (by kernel_rfl) (by kernel_rfl) (by kernel_rfl) (fun _ _ _ h => h) hS (Or.inl ⟨by rfl, ?_⟩) ?_
                    rotate_left
                    · intro w1 hS1
                      (try dsimp only at hS1)
                      go_simp
                      try with_reducible rfl
                    simp only [Act.put, List.getElem_toArray, List.getElem_cons_succ, List.getElem_cons_zero, List.setIfInBounds_toArray, List.set_cons_zero, List.set_cons_succ]
                    refine wpAnyM_take (i := 11) (v := ?_) rfl (by kernel_rfl) (by kernel_rfl) (by kernel_rfl) (by kernel_rfl) (fun _ _ _ h => h) hS (Or.inl ⟨by rfl, ?_⟩) ?_
                    rotate_left
                    · intro w1 hS1
                      (try dsimp only at hS1)
                      go_simp
                      try with_reducible rfl
                    simp only [Act.put, List.getElem_toArray, List.getElem_cons_succ, List.getElem_cons_zero, List.setIfInBounds_toArray, List.set_cons_zero, List.set_cons_succ]
                    refine wpAnyM_take (i := 12) (v := ?_) rfl (by kernel_rfl) (by kernel_rfl) (by kernel_rfl) (by kernel_rfl) (fun _ _ _ h => h) hS (Or.inl ⟨by rfl, ?_⟩) ?_
                    rotate_left
                    · intro w1 hS1
                      (try dsimp only at hS1)
                      go_simp
                      try with_reducible rfl
                    simp only [Act.put, List.getElem_toArray, List.getElem_cons_succ, List.getElem_cons_zero, List.setIfInBounds_toArray, List.set_cons_zero, List.set_cons_succ]
                    refine wpAnyM_take (i := 13) (v := ?_) rfl (by kernel_rfl) (by kernel_rfl) (by kernel_rfl) (by kernel_rfl) (fun _ _ _ h => h) hS (Or.inl ⟨by rfl, ?_⟩) ?_
                    rotate_left
                    · intro w1 hS1
                      (try dsimp only at hS1)
                      go_simp
                      try with_reducible rfl
                    simp only [Act.put, List.getElem_toArray, List.getElem_cons_succ, List.getElem_cons_zero, List.setIfInBounds_toArray, List.set_cons_zero, List.set_cons_succ]
                    refine wpAnyM_take (i := 14) (v := ?_) rfl (by kernel_rfl) (by kernel_rfl) (by kernel_rfl) (by kernel_rfl) (fun _ _ _ h => h) hS (Or.inl ⟨by rfl, ?_⟩) ?_
                    rotate_left
                    · intro w1 hS1
                      (try dsimp only at hS1)
                      go_simp
                      try with_reducible rfl
                    simp only [Act.put, List.getElem_toArray, List.getElem_cons_succ, List.getElem_cons_zero, List.setIfInBounds_toArray, List.set_cons_zero, List.set_cons_succ]
                    refine wpAnyM_one (i := 15) rfl (by kernel_rfl) ?_
                    intro K' hK
                    go_wp2_with (fail)
                    refine hK.out _ _ (fun hlt => hSof.out _ _ (H.alloc _) (.tail _ (.tail _ (.head _))) (by simp)) ?_
                    clear hK K'
                    refine wpAnyM_one (i := 16) rfl (by kernel_rfl) ?_
                    intro K' hK
                    go_wp2_with (first | ((with_reducible refine gate_dst (N := 91) rfl ?_); refine wp_append H rfl _ _ _ (.int .i64 0) 8 rfl Try.underlying29 info_int rfl (by decide) (by decide) e.frm [.int .i64 e.frm] rfl rfl (fun _ _ => rfl) (by omega) ?_; clear H; intro v1 W4 H; obtain ⟨A1', c1', rfl⟩ := H.one (.head _); obtain ⟨u, hu, hc1, hf1⟩ := H.cell1 (.tail _ (.tail _ (.head _))) hvv.out; clear hu))
                    refine hK.out _ _ (fun hlt => hSof.out _ _ H (.tail _ (.tail _ (.head _))) (by simp)) ?_
                    clear hK K'
                    refine wpAnyM_one (i := 17) rfl (by kernel_rfl) ?_
                    intro K' hK
                    go_wp2_with (fail)
                    refine hK.out _ _ (fun hlt => absurd hlt (by omega)) ?_
                    clear hK K'
                    refine wpAnyM_one (i := 18) rfl (by kernel_rfl) ?_
                    intro K' hK
                    go_wp2_with (fail)
                    refine hK.out _ _ (fun hlt => absurd hlt (by omega)) ?_
                    clear hK K'
                    refine wpAnyM_done (by kernel_rfl) ?_ _
                    clear hS
                    have H := H.push (l1 := _ :: _ :: l1)
                    rw [List.length_append, List.length_singleton] at H
                    have H := MemM.set1 (MemM.pull1 H) (i := k) (by rw [hvs.out]; exact hlt) (x' := slCell A1' (acc.length + 1) c1') (u := .slice A1' (acc.length + 1) c1') (fun _ _ => rfl)
                    have H := H.pull1
                    rw [List.append_eq, show ∀ (b c : Asr) (l1 l2 : List Asr), l1 ++ b :: (l2 ++ [c]) = l1 ++ b :: l2 ++ [c] from fun b c l1 l2 => by simp] at H
                    go_wp2
                    have e3 := e2.out (slCell A1' (acc.length + 1) c1') (acc ++ [e.frm])
                    rw [List.set_set] at e3
                    go_roundw
                    case rel => exact ⟨i + 1, vs.set k (slCell A1' (acc.length + 1) c1'), by omega, by go_num, by rw [Hid, List.length_set]; exact hvs.out, by rw [hpq.out, e3]; exact H⟩
                    case measure => simp [intOf]; omega
                · obtain rfl : i = (offs k).length := by omega
                  rw [List.take_length] at H
                  have H := H.drop
                  have hln := pick_len ⟨true, apref, acost, atags⟩ (offs k) ek
                  generalize pick ⟨true, apref, acost, atags⟩ (offs k) ek = acc at hrk hln H
                  have hget2 := hide (set_get (ofN row o.length k) k acc (by rw [ofN_len]; exact hlt))
                  obtain ⟨⟨v, hv1⟩, hv⟩ : ∃ v, vs[k]? = some v := ⟨_, List.getElem?_eq_getElem (by rw [hvs.out]; exact hlt)⟩
                  obtain ⟨l1, l2, e1, e2⟩ := rowsOf_split (int .i64) 3 (by rw [hvs.out, List.length_set, ofN_len]) hv hget2.out
                  have e2 := hide e2
                  have hvv := hide hv
                  rw [e1] at H
                  clear e1 hv
                  obtain ⟨A, c, rfl⟩ := H.one (d := int .i64) (e := 3) (v := v) (xs := acc) (by simp)
                  obtain ⟨u, hu, hc0, hf0⟩ := H.cell1 (.head _) hvv.out
                  cases hu
                  rw [show ∀ (r b c : Asr) (l1 l2 : List Asr), r :: (l1 ++ b :: l2 ++ [c]) = (r :: l1) ++ b :: (l2 ++ [c]) from fun r b c l1 l2 => by simp] at H
                  have H := H.pull
                  go_wp2_with (go_at_call 27; refine (sort_mem H (by omega)).mono ?_; rintro e W1 ⟨rfl, H1⟩; clear H hc0 hf0; have H := H1; clear H1)
                  have H := H.push (l1 := _ :: l1)
                  have hset : vs.set k ⟨.slice A acc.length c, hv1⟩ = vs := by
                    obtain ⟨hj, hj2⟩ := List.getElem?_eq_some_iff.1 hvv.out
                    rw [← hj2, List.set_getElem_self]
                  have e3 := e2.out ⟨.slice A acc.length c, hv1⟩ (acc.mergeSort le)
                  rw [List.set_set, ← hrk.out, hnext.out, hrk.out, hset] at e3
                  have hvS := hvS.out
                  subst hvS
                  go_roundw
                  case rel => exact ⟨k + 1, vs, by omega, by go_num, hvs, by rw [e3]; rw [List.append_assoc]; exact H⟩
                  case measure => simp [intOf]; omega
          · have hrk := hide (show row k = [] by
              rw [hrk.out, hwl.out]
              cases hla : l[k]? with
              | none => rfl
              | some a =>
                have : ¬ a.ok = true := fun h => hall ⟨a, hla, h⟩
                simp [this])
            have hsm := hide (hsm.out hrk.out)
            have hlf : (¬ k < l.length) ∨ ∃ adL, AL = some adL ∧ k < l.length ∧ wr.cell? (adL.add (k * 4)) = some (.bool false) := by
              by_cases hkl : k < l.length
              · obtain ⟨adL, e, hx⟩ := (H.arg hL).flat1 (List.getElem?_eq_getElem hkl)
                have hx0 := hx 0 _ rfl
                have : l[k].ok = false := by
                  cases h : l[k].ok
                  · rfl
                  · exact absurd ⟨_, List.getElem?_eq_getElem hkl, h⟩ hall
                rw [this] at hx0
                exact .inr ⟨adL, e, hkl, by simpa using hx0⟩
              · exact .inl hkl
            clear hwl hall
            rcases hsf with hks | ⟨ad1, x, rfl, hks, hxn, hx1⟩
            all_goals
              rcases hlf with hkl | ⟨adL, rfl, hkl, hl0⟩
            all_goals
              go_wp2
              go_roundw
              case rel => exact ⟨k + 1, vs, by omega, by go_num, hvs, by rw [hsm.out]; exact H⟩
              case measure => simp [intOf]; omega
      · have hrk : Hid (ofN row o.length (k + 1) = ofN row o.length k) := ofN_same row _ _ (by rw [hrow.out]; unfold way; rw [List.getD_eq_getElem?_getD, hob]; rfl)
        clear hob
        go_wp2
        go_roundw
        case rel => exact ⟨k + 1, vs, by omega, by go_num, hvs, by rw [hrk.out]; exact H⟩
        case measure => simp [intOf]; omega
    · obtain rfl : k = o.length := by omega
      rw [← hdef.out] at H
      go_wp2
      go_ret
      exact ⟨_, rfl, (MemM.nest (d := int .i64) (by decide) (by rw [hvs.out, hdef.out, ofN_len]) H).pull1.drop⟩
end Go.Proofs.Ytcagkdgpoijkoaa.Of
end
