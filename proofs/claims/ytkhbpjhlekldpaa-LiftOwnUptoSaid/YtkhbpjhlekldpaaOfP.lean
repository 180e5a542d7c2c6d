/- Plain: where nodes send. -/
import Derived.Test.YtkhbpjhlekldpaaApi
namespace Go.Proofs.Ytkhbpjhlekldpaa.OfP
open Go.Proofs.Ytkhbpjhlekldpaa.Mq
/-- A route. -/
structure At where
  ok : Bool
  pref : Int
  cost : Int
  tags : Int
  deriving DecidableEq
def At.enc (a : At) : List Value := [.bool a.ok, .int .i64 a.pref, .int .i64 a.cost, .int .u8 a.tags]
def atR : Rep At := flat 4 At.enc (fun _ => rfl) (fun x u hu => by simp [At.enc] at hu; rcases hu with rfl | rfl | rfl | rfl <;> rfl)
def le (x y : Int) : Bool := decide (x ≤ y)
def sameB (a b : At) : Bool := (!a.ok && !b.ok) || decide (a = b)
/-- From whom a node learns what it has. -/
def pick (a : At) (offs : List At) (es : List Ed) : List Int := ((offs.zip es).filter fun p => sameB p.1 a).map (·.2.frm)
inductive Way where
  | none
  | one (x : Int)
  | all (a : At)
def way (o : List Bool) (s : List Int) (l : List At) (k : Nat) : Way :=
  if o.getD k false then .none else
  match s[k]? with
  | some x => if 0 ≤ x then .one x else match l[k]? with | some a => if a.ok then .all a else .none | none => .none
  | none => match l[k]? with | some a => if a.ok then .all a else .none | none => .none
def ofRow (o : List Bool) (s : List Int) (es : List (List Ed)) (l : List At) (offs : Nat → List At) (k : Nat) : List Int :=
  match way o s l k with
  | .none => []
  | .one x => [x]
  | .all a => (pick a (offs k) (es.getD k [])).mergeSort le
def ofN (row : Nat → List Int) (n k : Nat) : List (List Int) := (List.range n).map fun j => if j < k then row j else []
def ofB (o : List Bool) (s : List Int) (es : List (List Ed)) (l : List At) (offs : Nat → List At) : List (List Int) := ofN (ofRow o s es l offs) o.length o.length
theorem ofN_len (row : Nat → List Int) (n k : Nat) : (ofN row n k).length = n := by simp [ofN]
theorem ofN_zero (row : Nat → List Int) (n : Nat) : ofN row n 0 = List.replicate n [] := by
  apply List.ext_getElem?
  intro i
  by_cases h : i < n <;> simp [ofN, h]
theorem ofN_get (row : Nat → List Int) (n k : Nat) (h : k < n) : (ofN row n k)[k]? = some [] := by simp [ofN, h]
theorem ofN_next (row : Nat → List Int) (n k : Nat) : (ofN row n k).set k (row k) = ofN row n (k + 1) := by
  apply List.ext_getElem?
  intro i
  rw [List.getElem?_set]
  by_cases h : k = i
  · subst h
    by_cases hk : k < n
    · simp [ofN, hk]
    · simp [ofN, hk]
  · rw [if_neg h]
    by_cases hi : i < n
    · simp [ofN, hi]
      by_cases h2 : i < k
      · rw [if_pos h2, if_pos (by omega)]
      · rw [if_neg h2, if_neg (by omega)]
    · simp [ofN, hi]
theorem ofN_same (row : Nat → List Int) (n k : Nat) (h : row k = []) : ofN row n (k + 1) = ofN row n k := by
  rw [← ofN_next, h]
  apply List.ext_getElem?
  intro i
  rw [List.getElem?_set]
  by_cases e : k = i
  · subst e
    by_cases hk : k < n <;> simp [ofN, hk]
  · rw [if_neg e]
theorem set_get {α : Type} (l : List α) (k : Nat) (x : α) (h : k < l.length) : (l.set k x)[k]? = some x := by simp [h]
theorem pick_zero (a : At) (es : List Ed) : pick a [] es = [] := by simp [pick]
theorem zip_next {α β : Type} : ∀ (i : Nat) (xs : List α) (ys : List β) (x : α) (y : β), xs[i]? = some x → ys[i]? = some y → (xs.take (i + 1)).zip ys = (xs.take i).zip ys ++ [(x, y)]
  | 0, a :: xs, b :: ys, x, y, h1, h2 => by simp at h1 h2; simp [h1, h2]
  | i + 1, a :: xs, b :: ys, x, y, h1, h2 => by
    have := zip_next i xs ys x y (by simpa using h1) (by simpa using h2)
    simp [this]
theorem pick_next (a : At) (offs : List At) (es : List Ed) (i : Nat) (x : At) (e : Ed) (hx : offs[i]? = some x) (he : es[i]? = some e) :
    pick a (offs.take (i + 1)) es = pick a (offs.take i) es ++ if sameB x a then [e.frm] else [] := by
  have h1 := zip_next i offs es x e hx he
  unfold pick
  rw [h1, List.filter_append, List.map_append]
  cases hs : sameB x a <;> simp [hs]
theorem pick_len (a : At) (offs : List At) (es : List Ed) : (pick a offs es).length ≤ offs.length := by
  unfold pick
  rw [List.length_map]
  exact Nat.le_trans (List.length_filter_le _ _) (by rw [List.length_zip]; omega)
end Go.Proofs.Ytkhbpjhlekldpaa.OfP
