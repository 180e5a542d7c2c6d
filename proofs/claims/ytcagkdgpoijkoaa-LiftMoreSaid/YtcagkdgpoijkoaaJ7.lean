/- Texts of this work, joined: OfP, Shelf, Sorted. -/
import Derived.Test.YtcagkdgpoijkoaaJ0
import Derived.Shelf.Small.Bits
import Derived.Shelf.Strconv.Itoa0
import Derived.Shelf.Sort.Plain
import Derived.Shelf.Slices.In.SortNone
import Derived.Test.YtcagkdgpoijkoaaProg
import Derived.Test.YtcagkdgpoijkoaaWMore
section
namespace Go.Proofs.Ytcagkdgpoijkoaa.OfP
open Go.Proofs.Ytcagkdgpoijkoaa.Mq
structure At where
  ok : Bool
  pref : Int
  cost : Int
  tags : Int
  deriving DecidableEq
def At.enc (a : At) : List Value := [.bool a.ok, .int .i64 a.pref, .int .i64 a.cost, .int .u8 a.tags]
def atR : Rep At := flat 4 At.enc (fun _ => rfl) (fun x u hu => by simp [At.enc] at hu; rcases hu with rfl | rfl | rfl | rfl <;> rfl)
def le (x y : Int) : Bool := decide (x ≤ y)
def sameB (a b : At) : Bool := (!a.ok && !b.ok) || decide (a = b)
def pick (a : At) (offs : List At) (es : List Ed) : List Int := ((offs.zip es).filter fun p => sameB p.1 a).map (·.2.frm)
inductive Way where
  | none
  | one (x : Int)
  | all (a : At)
def way (o : List Bool) (s : List Int) (l : List At) (k : Nat) : Way :=
  if o.getD k false then .none else
  match s[k]? with
  | some x => if 0 ≤ x then .one x else match l[k]? with | some a => if a.ok then .all a else .none | none => .none
  | none => match l[k]? with | some a => if a.ok then .all a else .none | none => .none
def ofRow (o : List Bool) (s : List Int) (es : List (List Ed)) (l : List At) (offs : Nat → List At) (k : Nat) : List Int :=
  match way o s l k with
  | .none => []
  | .one x => [x]
  | .all a => (pick a (offs k) (es.getD k [])).mergeSort le
def ofN (row : Nat → List Int) (n k : Nat) : List (List Int) := (List.range n).map fun j => if j < k then row j else []
def ofB (o : List Bool) (s : List Int) (es : List (List Ed)) (l : List At) (offs : Nat → List At) : List (List Int) := ofN (ofRow o s es l offs) o.length o.length
theorem ofN_len (row : Nat → List Int) (n k : Nat) : (ofN row n k).length = n := by simp [ofN]
theorem ofN_zero (row : Nat → List Int) (n : Nat) : ofN row n 0 = List.replicate n [] := by
  apply List.ext_getElem?
  intro i
  by_cases h : i < n <;> simp [ofN, h]
theorem ofN_get (row : Nat → List Int) (n k : Nat) (h : k < n) : (ofN row n k)[k]? = some [] := by simp [ofN, h]
theorem ofN_next (row : Nat → List Int) (n k : Nat) : (ofN row n k).set k (row k) = ofN row n (k + 1) := by
  apply List.ext_getElem?
  intro i
  rw [List.getElem?_set]
  by_cases h : k = i
  · subst h
    by_cases hk : k < n
    · simp [ofN, hk]
    · simp [ofN, hk]
  · rw [if_neg h]
    by_cases hi : i < n
    · simp [ofN, hi]
      by_cases h2 : i < k
      · rw [if_pos h2, if_pos (by omega)]
      · rw [if_neg h2, if_neg (by omega)]
    · simp [ofN, hi]
theorem ofN_same (row : Nat → List Int) (n k : Nat) (h : row k = []) : ofN row n (k + 1) = ofN row n k := by
  rw [← ofN_next, h]
  apply List.ext_getElem?
  intro i
  rw [List.getElem?_set]
  by_cases e : k = i
  · subst e
    by_cases hk : k < n <;> simp [ofN, hk]
  · rw [if_neg e]
theorem set_get {α : Type} (l : List α) (k : Nat) (x : α) (h : k < l.length) : (l.set k x)[k]? = some x := by simp [h]
theorem pick_zero (a : At) (es : List Ed) : pick a [] es = [] := by simp [pick]
theorem zip_next {α β : Type} : ∀ (i : Nat) (xs : List α) (ys : List β) (x : α) (y : β), xs[i]? = some x → ys[i]? = some y → (xs.take (i + 1)).zip ys = (xs.take i).zip ys ++ [(x, y)]
  | 0, a :: xs, b :: ys, x, y, h1, h2 => by simp at h1 h2; simp [h1, h2]
  | i + 1, a :: xs, b :: ys, x, y, h1, h2 => by
    have := zip_next i xs ys x y (by simpa using h1) (by simpa using h2)
    simp [this]
theorem pick_next (a : At) (offs : List At) (es : List Ed) (i : Nat) (x : At) (e : Ed) (hx : offs[i]? = some x) (he : es[i]? = some e) :
    pick a (offs.take (i + 1)) es = pick a (offs.take i) es ++ if sameB x a then [e.frm] else [] := by
  have h1 := zip_next i offs es x e hx he
  unfold pick
  rw [h1, List.filter_append, List.map_append]
  cases hs : sameB x a <;> simp [hs]
theorem pick_len (a : At) (offs : List At) (es : List Ed) : (pick a offs es).length ≤ offs.length := by
  unfold pick
  rw [List.length_map]
  exact Nat.le_trans (List.length_filter_le _ _) (by rw [List.length_zip]; omega)
end Go.Proofs.Ytcagkdgpoijkoaa.OfP
end
section
namespace Go.Proofs
open Go.Shelf
def Try.lays189_ren : Go.Shelf.Ren := ⟨fun | 189 => 27 | 125 => 45 | 257 => 44 | 128 => 61 | 129 => 62 | 294 => 52 | 295 => 53 | 296 => 54 | 297 => 55 | 298 => 56 | 299 => 57 | 216 => 58 | 300 => 59 | 301 => 60 | 328 => 74 | 329 => 75 | 330 => 76 | 331 => 77 | 332 => 78 | 215 => 79 | 343 => 83 | n => n, fun | 28 => 29 | 3 => 3 | 46 => 111 | 0 => 0 | 51 => 33 | 53 => 131 | 4 => 4 | 183 => 123 | 182 => 122 | 131 => 105 | 5 => 5 | 9 => 9 | 218 => 140 | 222 => 144 | 228 => 149 | 229 => 150 | n => n, fun | n => n⟩
theorem Try.lays189 : Go.Proofs.Lays.n189 Try.prog Try.lays189_ren := {
  mixed := by kernel_rfl
  f125 := Try.func45.trans (congrArg some (by kernel_rfl))
  f128 := Try.func61.trans (congrArg some (by kernel_rfl))
  f129 := Try.func62.trans (congrArg some (by kernel_rfl))
  f189 := Try.func27.trans (congrArg some (by kernel_rfl))
  f215 := Try.func79.trans (congrArg some (by kernel_rfl))
  f216 := Try.func58.trans (congrArg some (by kernel_rfl))
  f257 := Try.func44.trans (congrArg some (by kernel_rfl))
  f294 := Try.func52.trans (congrArg some (by kernel_rfl))
  f295 := Try.func53.trans (congrArg some (by kernel_rfl))
  f296 := Try.func54.trans (congrArg some (by kernel_rfl))
  f297 := Try.func55.trans (congrArg some (by kernel_rfl))
  f298 := Try.func56.trans (congrArg some (by kernel_rfl))
  f299 := Try.func57.trans (congrArg some (by kernel_rfl))
  f300 := Try.func59.trans (congrArg some (by kernel_rfl))
  f301 := Try.func60.trans (congrArg some (by kernel_rfl))
  f328 := Try.func74.trans (congrArg some (by kernel_rfl))
  f329 := Try.func75.trans (congrArg some (by kernel_rfl))
  f330 := Try.func76.trans (congrArg some (by kernel_rfl))
  f331 := Try.func77.trans (congrArg some (by kernel_rfl))
  f332 := Try.func78.trans (congrArg some (by kernel_rfl))
  f343 := Try.func83.trans (congrArg some (by kernel_rfl))
  t0 := Try.underlying0
  a0 := Try.isAgg0
  z0 := Try.sizeOf0
  v0 := Try.zeroValue0
  t3 := Try.underlying3
  a3 := Try.isAgg3
  z3 := Try.sizeOf3
  v3 := Try.zeroValue3
  t4 := Try.underlying4
  a4 := Try.isAgg4
  z4 := Try.sizeOf4
  v4 := Try.zeroValue4
  t5 := Try.underlying5
  a5 := Try.isAgg5
  z5 := Try.sizeOf5
  v5 := Try.zeroValue5
  t9 := Try.underlying9
  a9 := Try.isAgg9
  z9 := Try.sizeOf9
  v9 := Try.zeroValue9
  t28 := Try.underlying29
  a28 := Try.isAgg29
  z28 := Try.sizeOf29
  v28 := Try.zeroValue29
  t46 := Try.underlying111
  a46 := Try.isAgg111
  z46 := Try.sizeOf111
  v46 := Try.zeroValue111
  t51 := Try.underlying33
  a51 := Try.isAgg33
  z51 := Try.sizeOf33
  v51 := Try.zeroValue33
  t53 := Try.underlying131
  a53 := Try.isAgg131
  z53 := Try.sizeOf131
  v53 := Try.zeroValue131
  t131 := Try.underlying105
  a131 := Try.isAgg105
  z131 := Try.sizeOf105
  v131 := Try.zeroValue105
  t182 := Try.underlying122
  a182 := Try.isAgg122
  z182 := Try.sizeOf122
  v182 := Try.zeroValue122
  t183 := Try.underlying123
  a183 := Try.isAgg123
  z183 := Try.sizeOf123
  v183 := Try.zeroValue123
  t218 := Try.underlying140
  a218 := Try.isAgg140
  z218 := Try.sizeOf140
  v218 := Try.zeroValue140
  t222 := Try.underlying144
  a222 := Try.isAgg144
  z222 := Try.sizeOf144
  v222 := Try.zeroValue144
  t228 := Try.underlying149
  a228 := Try.isAgg149
  z228 := Try.sizeOf149
  v228 := Try.zeroValue149
  t229 := Try.underlying150
  a229 := Try.isAgg150
  z229 := Try.sizeOf150
  v229 := Try.zeroValue150 }
open Go.Sort Go.RowKit in
theorem Try.slices_Sort_int (blk off cap : Nat) (zs : List Int) (w : World) (hH : Holds (Value.int .i64) w blk off zs.toArray) (hblk : blk < w.heap.size) (hsz : zs.length < 4611686018427387904) :
    Calls Try.prog 27 #[.slice (some ⟨blk, off, none⟩) zs.length cap] w fun e w' =>
      e = .returned (.tuple #[]) ∧ ∃ n os, w' = grow (putRow (Value.int .i64) (Sort.ahead w n) blk off (zs.mergeSort fun x y => decide (x ≤ y)).toArray) os := Any.slices_Sort_int Try.lays189 blk off cap zs w hH hblk hsz
open Go.RowKit Go.Sort in
theorem Try.slices_Sort_int_none (p : Option Addr) (cap : Nat) (w : World) :
    Calls Try.prog 27 #[.slice p 0 cap] w fun e w' => e = .returned (.tuple #[]) ∧ w' = w := Any.slices_Sort_int_none Try.lays189 p cap w
end Go.Proofs
end
section
namespace Go.Proofs.Ytcagkdgpoijkoaa.Sorted
open Go.RowKit Go.Sort
open Go.Proofs.YtcagkdgpoijkoaaW.PrintWords (Kd Kept Reps)
set_option linter.unusedVariables false
def le (x y : Int) : Bool := decide (x ≤ y)
theorem take_put (zs : List Int) (cur : Array Value) (h : zs.length ≤ cur.size) : (putCells (Value.int .i64) 0 zs.toArray cur).toList.take zs.length = zs.map (Value.int .i64) := by
  apply List.ext_getElem?; intro i; rw [List.getElem?_take]; by_cases hi : i < zs.length
  · rw [if_pos hi, List.getElem?_map, List.getElem?_eq_getElem hi]
    simp [putCells, hi, show i < cur.size by omega]
  · rw [if_neg hi, List.getElem?_map, List.getElem?_eq_none (by omega)]; rfl
theorem sort_calls (P0_ : Nat → Prop) (u9000_ : Value) (l0 : List Int) (r : List Int) (w0 w : World) (hB : Below w0.heap.size w0 w) (ho0 : Kd.R (Kd.int .i64) 3 w w0.heap.size P0_ u9000_ l0) (hl : l0.length < 4611686018427387904) (h : l0.mergeSort le = r) :
    Calls Try.prog 27 #[u9000_] w fun e w' => e = .returned (.tuple #[]) ∧ Kd.R (Kd.int .i64) 3 w' w0.heap.size (fun k_ => (P0_ k_ ∨ w.heap.size ≤ k_)) u9000_ r ∧ Below w0.heap.size w0 w' ∧ Kept w w' (fun k_ => P0_ k_) := by
  obtain ⟨h0, inner, ⟨hil, ho⟩, hr⟩ := ho0; rcases ho with ⟨rfl, hn⟩ | ⟨g, cap, cur, rfl, hg, hh, hn, hm, hs, ht⟩
  · have : l0 = [] := List.eq_nil_of_length_eq_zero hn
    subst this; (have : r = [] := by rw [← h]; simp); subst this; refine (Try.slices_Sort_int_none none 0 w).mono ?_; rintro e w' ⟨rfl, rfl⟩; exact ⟨rfl, Kd.R_nil _ _ _ _ _, hB, Kept.refl _ _⟩
  · have hgs : g < w.heap.size := (Array.getElem?_eq_some_iff.1 hh).1
    have hcs : l0.length ≤ cur.size := by rw [hs]; show l0.length ≤ cap * 1; omega
    have hel : ∀ j (hj : j < l0.length), cur[j]? = some (.int .i64 l0[j]) := by
      intro j hj; have h2 := hr.2 j _ (List.getElem?_eq_getElem hj); have h3 : ((inner.drop (j * 1)).take 1) = [Value.int .i64 l0[j]] := h2; rw [Nat.mul_one] at h3
      have h4 : inner[j]? = some (.int .i64 l0[j]) := by
        have := congrArg (fun l => l[0]?) h3; simpa [List.getElem?_take, List.getElem?_drop] using this
      rw [← ht, List.getElem?_take] at h4; split at h4
      · simpa using h4
      · cases h4
    have hH : Holds (Value.int .i64) w g 0 l0.toArray := by
      intro j hj; (have hj' : j < l0.length := by simpa using hj); refine ⟨?_, ?_⟩
      · rw [Nat.zero_add]
        have := hel j hj'; simp [World.cell?, hh, this, hj']
      · simp [World.frozen?, hh]
    refine (Try.slices_Sort_int g 0 cap l0 w hH hgs hl).mono ?_; rintro e w' ⟨rfl, m, os, rfl⟩; (have hrl : r.length = l0.length := by rw [← h]; simp); have h' : (l0.mergeSort fun x y => decide (x ≤ y)) = r := h; rw [h']
    have hb : ∀ k, k < w.heap.size → (grow (putRow (Value.int .i64) (Go.Sort.ahead w m) g 0 r.toArray) os).heap[k]? = if k = g then some (.cells (putCells (Value.int .i64) 0 r.toArray cur) 3 (0, 0)) else w.heap[k]? := by
      intro k hk; rw [heap_grow_old _ _ (by simpa [putRow, mapBlock, Go.Sort.ahead] using hk)]; unfold putRow mapBlock Go.Sort.ahead; simp only [Array.getElem?_modify]; by_cases hkg : k = g
      · subst hkg
        simp [hh, onCells]
      · simp [hkg, Ne.symm hkg]
    (have hsz : w.heap.size ≤ (grow (putRow (Value.int .i64) (Go.Sort.ahead w m) g 0 r.toArray) os).heap.size := by simp [grow, putRow, mapBlock, Go.Sort.ahead]); refine ⟨rfl, ⟨fun k hk => .inl (h0 k hk), r.map (Value.int .i64), ?_, ?_⟩, ?_, ⟨hsz, fun i hi hP => ?_⟩⟩
    · refine ⟨by rw [List.length_map]; show _ = r.length * 1; omega, .inr ⟨g, cap, _, by rw [hrl], hg, (hb g hgs).trans (if_pos rfl), by rw [hrl]; exact hn, hm, ?_, ?_⟩⟩
      · simp only [putCells, Array.size_mapIdx]; exact hs
      · show List.take (r.length * 1) _ = _
        rw [Nat.mul_one]; exact take_put r cur (by rw [hrl]; exact hcs)
    · refine ⟨by rw [List.length_map]; show _ = r.length * 1; omega, fun j p hj => ?_⟩
      show ((r.map (Value.int .i64)).drop (j * 1)).take 1 = [Value.int .i64 p]; rw [Nat.mul_one]; obtain ⟨hj1, rfl⟩ := List.getElem?_eq_some_iff.1 hj; rw [List.drop_eq_getElem_cons (by rw [List.length_map]; exact hj1)]; simp
    · refine ⟨hB.os, hB.tape, hB.output, Nat.le_trans hB.size hsz, fun k hk => ?_⟩
      have hk2 : k < w.heap.size := Nat.lt_of_lt_of_le hk hB.size; rw [hb k hk2, if_neg (by omega)]; exact hB.block k hk
    · rw [hb i hi, if_neg (fun e : i = g => hP (by rw [e]; exact h0 g (by simp [Value.ownBlock])))]
end Go.Proofs.Ytcagkdgpoijkoaa.Sorted
end
