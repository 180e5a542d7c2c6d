/- Plain law: a text cut into tokens: the program and the law tell one and the same of it. -/
import Derived.Test.YthodilggomedgaaDoorBkR
import Derived.Test.YthodilggomedgaaDoorPTbx16
import Derived.Test.YthodilggomedgaaDoorPTbx22
import Derived.Test.YthodilggomedgaaDoorPTbx17
namespace Go.Proofs.YthodilggomedgaaDoor.BkC
open Go.RowKit Go.Proofs.YthodilggomedgaaDoor.PTb Go.Proofs.YthodilggomedgaaDoorW.PrintWords Go.Proofs.YthodilggomedgaaDoorW.PrintLast Go.Proofs.YthodilggomedgaaDoorW.PrintMore Go.Proofs.YthodilggomedgaaDoor.Dec Go.Proofs.YthodilggomedgaaDoor.BkM Go.Proofs.YthodilggomedgaaDoor.BkP
set_option linter.unusedVariables false
set_option linter.unusedSimpArgs false
set_option linter.unusedSectionVars false
set_option linter.all false
set_option maxRecDepth 100000 in
theorem awake_ok : maquettelaw06_awake.f 60 = some true := by decide +kernel
theorem awake_k : ∀ k, maquettelaw06_awake.f (k + 60) = some true
  | 0 => awake_ok
  | k + 1 => maquettelaw06_awake.mono _ _ (awake_k k)
theorem awake_at {k : Nat} (h : 60 ≤ k) : maquettelaw06_awake.f k = some true := by
  have := awake_k (k - 60)
  rwa [show k - 60 + 60 = k from by omega] at this
/-- What may stand in a piece. -/
def pt (c : Int) : Bool := lt c || dg c || c == 46 || c == 47 || c == 45
theorem part_f (c : Int) : token_part.f c = some (pt c) := by
  unfold token_part.f pt
  rw [letter_f, Option.bind_some]
  by_cases h : lt c = true
  · rw [if_pos h]; simp [h]
  · rw [if_neg h, digit_f, Option.bind_some]
    by_cases h2 : dg c = true
    · rw [if_pos h2]; simp [h2]
    · rw [if_neg h2]
      simp only [Bool.not_eq_true] at h h2
      rw [h, h2]
      by_cases h3 : c = 46
      · simp [h3]
      · rw [if_neg h3]
        by_cases h4 : c = 47
        · simp [h4]
        · simp [h3, h4]
theorem lpart_f (c : Int) : maquettelaw06_part.f c = some (pt c) := by
  unfold maquettelaw06_part.f pt lt dg
  by_cases a : 97 ≤ c <;> by_cases b : c ≤ 122 <;> by_cases d : 48 ≤ c <;> by_cases e : c ≤ 57 <;> by_cases f : c = 46 <;> by_cases g : c = 47 <;> simp [a, b, d, e, f, g, show ((97 : Int) ≤ c) = (c ≥ 97) from rfl, show ((48 : Int) ≤ c) = (c ≥ 48) from rfl] <;> omega
theorem scan (P : Nat → Prop) (n : Nat) : ∀ d p, p + d = n → ∃ q, p ≤ q ∧ q ≤ n ∧ (∀ i, p ≤ i → i < q → P i) ∧ (q = n ∨ ¬ P q)
  | 0, p, h => ⟨p, by omega, by omega, fun i _ _ => by omega, Or.inl (by omega)⟩
  | d + 1, p, h => by
    by_cases hp : P p
    · obtain ⟨q, h1, h2, h3, h4⟩ := scan P n d (p + 1) (by omega)
      refine ⟨q, by omega, h2, fun i a b => ?_, h4⟩
      by_cases e : i = p
      · rw [e]; exact hp
      · exact h3 i (by omega) b
    · exact ⟨p, by omega, by omega, fun i _ _ => by omega, Or.inr hp⟩
def eof (x : ByteArray) : S33 := ⟨0, ⟨#[]⟩, 0, ⟨0, 0⟩, (x.size : Int)⟩
def sg (x : ByteArray) (p : Nat) : S33 := ⟨4, x.extract p (p + 1), 0, ⟨0, 0⟩, (p : Int)⟩
def wd (r : Pc) (p : Nat) : S33 := ⟨r.1, r.2.1, r.2.2.1, ⟨r.2.2.2.1, r.2.2.2.2.1⟩, (p : Int)⟩
/-- What the program ends in, from a place on. -/
def Y (x : ByteArray) (a : List S33) (p : Nat) (R : List S33 × Option Int) : Prop := ∃ k, token_Cut.l0 k x a (p : Int) = some R
/-- What the law ends in. -/
def L (x : ByteArray) (a : List S33) (p : Nat) (R : List S33 × Int) : Prop := ∃ k, maquettelaw06_cut.l0 k x a (p : Int) = some R
def bl (c : Int) : Prop := c = 32 ∨ c = 9 ∨ c = 10
def sn (c : Int) : Prop := c = 123 ∨ c = 125 ∨ c = 59
section
variable {x : ByteArray} {a : List S33} {p : Nat} (hx : x.size ≤ 65536) (ha : a.length ≤ 65536)
include hx ha
theorem Y.eof (h : x.size ≤ p) : Y x a p (a ++ [BkC.eof x], none) := by
  refine ⟨1, ?_⟩
  rw [token_Cut.l0, if_neg (by omega), if_pos (by omega)]
  rfl
theorem L.eof (h : x.size ≤ p) : L x a p (a ++ [BkC.eof x], -1) := by
  refine ⟨1, ?_⟩
  rw [maquettelaw06_cut.l0, if_neg (by omega), if_pos (by omega)]
  rfl
theorem Y.blank {R} (hp : p < x.size) (hc : bl (bt x p)) (h : Y x a (p + 1) R) : Y x a p R := by
  obtain ⟨k, h⟩ := h
  refine ⟨k + 2, ?_⟩
  have hj : token_Cut.j1 (k + 1) x a p (bt x p) (wrap64 ((p : Int) + 1)) true = some R := by
    rw [token_Cut.j1, if_pos rfl, w1 (by omega)]
    exact h
  rw [token_Cut.l0, if_pos (by omega), if_pos (by omega)]
  rcases hc with e | e | e
  · rw [if_pos e]; exact hj
  · rw [if_neg (by omega), if_pos e]; exact hj
  · rw [if_neg (by omega), if_neg (by omega), e]
    rw [e] at hj
    exact hj
theorem L.blank {R} (hp : p < x.size) (hc : bl (bt x p)) (h : L x a (p + 1) R) : L x a p R := by
  obtain ⟨k, h⟩ := h
  refine ⟨k + 2, ?_⟩
  have hj : maquettelaw06_cut.j1 (k + 1) x a p (bt x p) true = some R := by
    rw [maquettelaw06_cut.j1, if_pos rfl, w1 (by omega)]
    exact h
  rw [maquettelaw06_cut.l0, if_pos (by omega), if_pos (by omega)]
  rcases hc with e | e | e
  · rw [if_pos e]; exact hj
  · rw [if_neg (by omega), if_pos e]; exact hj
  · rw [if_neg (by omega), if_neg (by omega), e]
    rw [e] at hj
    exact hj
theorem Y.in_ {R} (hp : p < x.size) (hc : ¬ bl (bt x p)) (h : ∃ k, token_Cut.j1 k x a p (bt x p) ((p + 1 : Nat) : Int) false = some R) : Y x a p R := by
  obtain ⟨k, h⟩ := h
  refine ⟨k + 1, ?_⟩
  unfold bl at hc
  have hf : (bt x (p : Int) == 10) = false := by simp; omega
  rw [token_Cut.l0, if_pos (by omega), if_pos (by omega), if_neg (by omega), if_neg (by omega), hf, w1 (by omega)]
  exact h
theorem L.in_ {R} (hp : p < x.size) (hc : ¬ bl (bt x p)) (h : ∃ k, maquettelaw06_cut.j1 k x a p (bt x p) false = some R) : L x a p R := by
  obtain ⟨k, h⟩ := h
  refine ⟨k + 1, ?_⟩
  unfold bl at hc
  have hf : (bt x (p : Int) == 10) = false := by simp; omega
  rw [maquettelaw06_cut.l0, if_pos (by omega), if_pos (by omega), if_neg (by omega), if_neg (by omega), hf]
  exact h
/-- A comment, up to its line's end. -/
theorem Y.com {R} {q : Nat} (hq : q ≤ x.size) (he : q = x.size ∨ bt x q = 10) (h : Y x a q R) : ∀ d i, i + d = q → (∀ j, i ≤ j → j < q → bt x j ≠ 10) → ∃ k, token_Cut.l1 k x a (i : Int) = some R
  | 0, i, hi, hn => by
    obtain ⟨k, h⟩ := h
    obtain rfl : i = q := by omega
    refine ⟨k + 1, ?_⟩
    rw [token_Cut.l1]
    rcases he with e | e
    · rw [if_neg (by omega)]; exact h
    · by_cases hl : (i : Int) < (x.size : Int)
      · rw [if_pos hl, if_pos (by omega), if_pos e]; exact h
      · rw [if_neg hl]; exact h
  | d + 1, i, hi, hn => by
    obtain ⟨k, e⟩ := Y.com hq he h d (i + 1) (by omega) (fun j a b => hn j (by omega) b)
    refine ⟨k + 1, ?_⟩
    rw [token_Cut.l1, if_pos (by omega), if_pos (by omega), if_neg (hn i (by omega) (by omega)), w1 (by omega)]
    exact e
theorem L.com {R} {q : Nat} (hq : q ≤ x.size) (he : q = x.size ∨ bt x q = 10) (h : L x a q R) : ∀ d i, i + d = q → (∀ j, i ≤ j → j < q → bt x j ≠ 10) → ∃ k, maquettelaw06_cut.l1 k x a (i : Int) = some R
  | 0, i, hi, hn => by
    obtain ⟨k, h⟩ := h
    obtain rfl : i = q := by omega
    refine ⟨k + 1, ?_⟩
    rw [maquettelaw06_cut.l1]
    rcases he with e | e
    · rw [if_neg (by omega)]; exact h
    · by_cases hl : (i : Int) < (x.size : Int)
      · rw [if_pos hl, if_pos (by omega), if_pos e]; exact h
      · rw [if_neg hl]; exact h
  | d + 1, i, hi, hn => by
    obtain ⟨k, e⟩ := L.com hq he h d (i + 1) (by omega) (fun j a b => hn j (by omega) b)
    refine ⟨k + 1, ?_⟩
    rw [maquettelaw06_cut.l1, if_pos (by omega), if_pos (by omega), if_neg (hn i (by omega) (by omega)), w1 (by omega)]
    exact e
/-- A sign. -/
theorem Y.sign {R} (hp : p < x.size) (hc : sn (bt x p)) (h : Y x (a ++ [sg x p]) (p + 1) R) : Y x a p R := by
  refine Y.in_ hx ha hp (by unfold sn at hc; unfold bl; omega) ?_
  obtain ⟨k, h⟩ := h
  refine ⟨k + 1, ?_⟩
  have e : (⟨4, x.extract ((p : Int)).toNat (((p + 1 : Nat) : Int)).toNat, 0, (⟨0, 0⟩ : S31), (p : Int)⟩ : S33) = sg x p := rfl
  have hb : (if 0 ≤ (p : Int) then (if (p : Int) ≤ ((p + 1 : Nat) : Int) then (if ((p + 1 : Nat) : Int) ≤ (x.size : Int) then (if a.length < 2513169434916 then token_Cut.l0 k x (a ++ [(⟨4, x.extract ((p : Int)).toNat (((p + 1 : Nat) : Int)).toNat, 0, (⟨0, 0⟩ : S31), (p : Int)⟩ : S33)]) ((p + 1 : Nat) : Int) else none) else none) else none) else none) = some R := by
    rw [if_pos (by omega), if_pos (by omega), if_pos (by omega), if_pos (by omega), e]
    exact h
  rw [token_Cut.j1, if_neg (by decide)]
  rcases hc with c | c | c
  · rw [if_neg (by omega), if_pos c]; exact hb
  · rw [if_neg (by omega), if_neg (by omega), if_pos c]; exact hb
  · rw [if_neg (by omega), if_neg (by omega), if_neg (by omega), if_pos c]; exact hb
theorem L.sign {R} (hp : p < x.size) (hc : sn (bt x p)) (h : L x (a ++ [sg x p]) (p + 1) R) : L x a p R := by
  refine L.in_ hx ha hp (by unfold sn at hc; unfold bl; omega) ?_
  obtain ⟨k, h⟩ := h
  refine ⟨k + 2, ?_⟩
  have e : (⟨4, x.extract ((p : Int)).toNat (((p + 1 : Nat) : Int)).toNat, 0, (⟨0, 0⟩ : S31), (p : Int)⟩ : S33) = sg x p := rfl
  have hb : maquettelaw06_cut.j3 (k + 1) x a p true = some R := by
    rw [maquettelaw06_cut.j3, if_pos rfl, w1 (by omega), if_pos (by omega), if_pos (by omega), if_pos (by omega), if_pos (by omega), e]
    exact h
  rw [maquettelaw06_cut.j1, if_neg (by decide)]
  rcases hc with c | c | c
  · rw [if_neg (by omega), if_pos c]; exact hb
  · rw [if_neg (by omega), if_neg (by omega), if_pos c]; exact hb
  · rw [if_neg (by omega), if_neg (by omega), if_neg (by omega), c]; exact hb
/-- A comment, whole. -/
theorem Y.note {R} {q : Nat} (hp : p < x.size) (hc : bt x p = 35) (hq : p < q) (hqx : q ≤ x.size) (hn : ∀ j, p + 1 ≤ j → j < q → bt x j ≠ 10) (he : q = x.size ∨ bt x q = 10) (h : Y x a q R) : Y x a p R := by
  refine Y.in_ hx ha hp (by unfold bl; omega) ?_
  obtain ⟨k, h⟩ := Y.com hx ha hqx he h (q - (p + 1)) (p + 1) (by omega) hn
  refine ⟨k + 1, ?_⟩
  rw [token_Cut.j1, if_neg (by decide), if_pos hc]
  exact h
theorem L.note {R} {q : Nat} (hp : p < x.size) (hc : bt x p = 35) (hq : p < q) (hqx : q ≤ x.size) (hn : ∀ j, p + 1 ≤ j → j < q → bt x j ≠ 10) (he : q = x.size ∨ bt x q = 10) (h : L x a q R) : L x a p R := by
  refine L.in_ hx ha hp (by unfold bl; omega) ?_
  obtain ⟨k, h⟩ := L.com hx ha hqx he h (q - p) p (by omega) (fun j a b => by
    by_cases e : j = p
    · rw [e, hc]; decide
    · exact hn j (by omega) b)
  refine ⟨k + 1, ?_⟩
  rw [maquettelaw06_cut.j1, if_neg (by decide), if_pos hc]
  exact h
theorem Y.scan {R} {q : Nat} (hq : q ≤ x.size) (hpq : p ≤ q) (he : q = x.size ∨ pt (bt x q) = false) (h : ∃ k, token_Cut.j4 k x a p q = some R) : ∀ d i, i + d = q → (∀ j, i ≤ j → j < q → pt (bt x j) = true) → ∃ k, token_Cut.l2 k x a p (i : Int) = some R
  | 0, i, hi, hn => by
    obtain ⟨k, h⟩ := h
    obtain rfl : i = q := by omega
    refine ⟨k + 1, ?_⟩
    rw [token_Cut.l2]
    by_cases hl : (i : Int) < (x.size : Int)
    · rcases he with e | e
      · omega
      · rw [if_pos hl, if_pos (by omega), part_f, Option.bind_some, e, if_neg (by decide)]
        exact h
    · rw [if_neg hl]; exact h
  | d + 1, i, hi, hn => by
    obtain ⟨k, e⟩ := Y.scan hq hpq he h d (i + 1) (by omega) (fun j a b => hn j (by omega) b)
    refine ⟨k + 1, ?_⟩
    rw [token_Cut.l2, if_pos (by omega), if_pos (by omega), part_f, Option.bind_some, if_pos (hn i (by omega) (by omega)), w1 (by omega)]
    exact e
/-- What the law does behind a piece. -/
def lj4 (k : Nat) (x0 : ByteArray) (x4 : List S33) (x5 x7 : Int) : Option (List S33 × Int) := if 0 ≤ x5 then (if x5 ≤ x7 then (if x7 ≤ (x0.size : Int) then ((maquettelaw06_piece.f k (x0.extract (x5 : Int).toNat (x7 : Int).toNat)).bind fun bt202 => (if bt202.2.2.2.2.2.2 = true then (if x4.length < 2513169434916 then (maquettelaw06_cut.l0 k x0 (x4 ++ [(⟨bt202.1, bt202.2.1, bt202.2.2.1, (⟨bt202.2.2.2.1, bt202.2.2.2.2.1⟩ : S31), x5⟩ : S33)]) x7) else (none)) else (some (([] : List (S33)), x5)))) else (none)) else (none)) else (none)
theorem L.scan {R} {q : Nat} (hq : q ≤ x.size) (hpq : p ≤ q) (he : q = x.size ∨ pt (bt x q) = false) (h : ∃ k, lj4 k x a p q = some R) : ∀ d i, i + d = q → (∀ j, i ≤ j → j < q → pt (bt x j) = true) → ∃ k, maquettelaw06_cut.l2 k x a p (i : Int) = some R
  | 0, i, hi, hn => by
    obtain ⟨k, h⟩ := h
    obtain rfl : i = q := by omega
    refine ⟨k + 1, ?_⟩
    rw [maquettelaw06_cut.l2]
    by_cases hl : (i : Int) < (x.size : Int)
    · rcases he with e | e
      · omega
      · rw [if_pos hl, if_pos (by omega), lpart_f, Option.bind_some, e, if_neg (by decide)]
        exact h
    · rw [if_neg hl]; exact h
  | d + 1, i, hi, hn => by
    obtain ⟨k, e⟩ := L.scan hq hpq he h d (i + 1) (by omega) (fun j a b => hn j (by omega) b)
    refine ⟨k + 1, ?_⟩
    rw [maquettelaw06_cut.l2, if_pos (by omega), if_pos (by omega), lpart_f, Option.bind_some, if_pos (hn i (by omega) (by omega)), w1 (by omega)]
    exact e
theorem Y.other {R} {q : Nat} (hp : p < x.size) (hb : ¬ bl (bt x p)) (hs : ¬ sn (bt x p)) (hc : bt x p ≠ 35) (hq : q ≤ x.size) (hpq : p ≤ q) (hn : ∀ j, p ≤ j → j < q → pt (bt x j) = true) (he : q = x.size ∨ pt (bt x q) = false) (h : ∃ k, token_Cut.j4 k x a p q = some R) : Y x a p R := by
  refine Y.in_ hx ha hp hb ?_
  obtain ⟨k, h⟩ := Y.scan hx ha hq hpq he h (q - p) p (by omega) hn
  refine ⟨k + 1, ?_⟩
  unfold sn at hs
  rw [token_Cut.j1, if_neg (by decide), if_neg hc, if_neg (by omega), if_neg (by omega), if_neg (by omega)]
  exact h
theorem L.other {R} {q : Nat} (hp : p < x.size) (hb : ¬ bl (bt x p)) (hs : ¬ sn (bt x p)) (hc : bt x p ≠ 35) (hq : q ≤ x.size) (hpq : p ≤ q) (hn : ∀ j, p ≤ j → j < q → pt (bt x j) = true) (he : q = x.size ∨ pt (bt x q) = false) (h : ∃ k, lj4 k x a p q = some R) : L x a p R := by
  refine L.in_ hx ha hp hb ?_
  obtain ⟨k, h⟩ := L.scan hx ha hq hpq he h (q - p) p (by omega) hn
  refine ⟨k + 2, ?_⟩
  unfold sn at hs
  have hf : (bt x (p : Int) == 59) = false := by simp; omega
  rw [maquettelaw06_cut.j1, if_neg (by decide), if_neg hc, if_neg (by omega), if_neg (by omega), hf, maquettelaw06_cut.j3, if_neg (by decide)]
  exact h
theorem Y.word {R} {q : Nat} {r : Pc} (hp : p < x.size) (hb : ¬ bl (bt x p)) (hs : ¬ sn (bt x p)) (hc : bt x p ≠ 35) (hq : q ≤ x.size) (hpq : p ≤ q) (hn : ∀ j, p ≤ j → j < q → pt (bt x j) = true) (he : q = x.size ∨ pt (bt x q) = false) (hr : ∃ K, ∀ k, K ≤ k → token_piece.f k (x.extract p q) = some r) (hf : r.2.2.2.2.2.2 = true) (h : Y x (a ++ [wd r p]) q R) : Y x a p R := by
  refine Y.other hx ha hp hb hs hc hq hpq hn he ?_
  obtain ⟨k0, hr⟩ := hr
  obtain ⟨k, h⟩ := h
  have h' := leO_up (F := fun k => token_Cut.l0 k x (a ++ [wd r p]) (q : Int)) (fun k => (token_Cut.mono_l k).1 _ _ _) (show k ≤ k + k0 by omega) h
  refine ⟨k + k0 + 1, ?_⟩
  rw [token_Cut.j4, if_pos (by omega), if_pos (by omega), if_pos (by omega), Int.toNat_natCast, Int.toNat_natCast, hr _ (by omega), Option.bind_some, if_pos hf, if_pos (by omega)]
  exact h'
theorem Y.bad {q : Nat} {r : Pc} (hp : p < x.size) (hb : ¬ bl (bt x p)) (hs : ¬ sn (bt x p)) (hc : bt x p ≠ 35) (hq : q ≤ x.size) (hpq : p ≤ q) (hn : ∀ j, p ≤ j → j < q → pt (bt x j) = true) (he : q = x.size ∨ pt (bt x q) = false) (hr : ∃ K, ∀ k, K ≤ k → token_piece.f k (x.extract p q) = some r) (hf : r.2.2.2.2.2.2 = false) : Y x a p ([], some ((p : Int) * 16 + 1)) := by
  refine Y.other hx ha hp hb hs hc hq hpq hn he ?_
  obtain ⟨k0, hr⟩ := hr
  refine ⟨k0 + 1, ?_⟩
  rw [token_Cut.j4, if_pos (by omega), if_pos (by omega), if_pos (by omega), Int.toNat_natCast, Int.toNat_natCast, hr _ (by omega), Option.bind_some, if_neg (by rw [hf]; decide)]
  unfold api_Wrap.f
  rw [if_pos (by omega), Option.bind_some]
theorem L.word {R} {q : Nat} {r : Pc} (hp : p < x.size) (hb : ¬ bl (bt x p)) (hs : ¬ sn (bt x p)) (hc : bt x p ≠ 35) (hq : q ≤ x.size) (hpq : p ≤ q) (hn : ∀ j, p ≤ j → j < q → pt (bt x j) = true) (he : q = x.size ∨ pt (bt x q) = false) (hr : ∃ K, ∀ k, K ≤ k → maquettelaw06_piece.f k (x.extract p q) = some r) (hf : r.2.2.2.2.2.2 = true) (h : L x (a ++ [wd r p]) q R) : L x a p R := by
  refine L.other hx ha hp hb hs hc hq hpq hn he ?_
  obtain ⟨k0, hr⟩ := hr
  obtain ⟨k, h⟩ := h
  have h' := leO_up (F := fun k => maquettelaw06_cut.l0 k x (a ++ [wd r p]) (q : Int)) (fun k => (maquettelaw06_cut.mono_l k).1 _ _ _) (show k ≤ k + k0 by omega) h
  refine ⟨k + k0, ?_⟩
  unfold lj4
  rw [if_pos (by omega), if_pos (by omega), if_pos (by omega), Int.toNat_natCast, Int.toNat_natCast, hr _ (by omega), Option.bind_some, if_pos hf, if_pos (by omega)]
  exact h'
theorem L.bad {q : Nat} {r : Pc} (hp : p < x.size) (hb : ¬ bl (bt x p)) (hs : ¬ sn (bt x p)) (hc : bt x p ≠ 35) (hq : q ≤ x.size) (hpq : p ≤ q) (hn : ∀ j, p ≤ j → j < q → pt (bt x j) = true) (he : q = x.size ∨ pt (bt x q) = false) (hr : ∃ K, ∀ k, K ≤ k → maquettelaw06_piece.f k (x.extract p q) = some r) (hf : r.2.2.2.2.2.2 = false) : L x a p ([], (p : Int)) := by
  refine L.other hx ha hp hb hs hc hq hpq hn he ?_
  obtain ⟨k0, hr⟩ := hr
  refine ⟨k0, ?_⟩
  unfold lj4
  rw [if_pos (by omega), if_pos (by omega), if_pos (by omega), Int.toNat_natCast, Int.toNat_natCast, hr _ (by omega), Option.bind_some, if_neg (by rw [hf]; decide)]
end
theorem ext_size {x : ByteArray} {i j : Nat} (h : j ≤ x.size) : (x.extract i j).size = j - i := by
  rw [ByteArray.size_extract]; omega
end Go.Proofs.YthodilggomedgaaDoor.BkC
