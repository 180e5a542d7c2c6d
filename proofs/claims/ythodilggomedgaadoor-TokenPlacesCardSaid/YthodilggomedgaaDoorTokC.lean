/- Plain law: a text cut into tokens: the program and the law tell one and the same of it. -/
import Derived.Test.YthodilggomedgaaDoorTokR
import Derived.Test.YthodilggomedgaaDoorPTkx16
import Derived.Test.YthodilggomedgaaDoorPTkx23
import Derived.Test.YthodilggomedgaaDoorPTkx17
namespace Go.Proofs.YthodilggomedgaaDoor.TokC
open Go.RowKit Go.Proofs.YthodilggomedgaaDoor.PTk Go.Proofs.YthodilggomedgaaDoorW.PrintWords Go.Proofs.YthodilggomedgaaDoorW.PrintLast Go.Proofs.YthodilggomedgaaDoorW.PrintMore Go.Proofs.YthodilggomedgaaDoor.Dec Go.Proofs.YthodilggomedgaaDoor.TokM Go.Proofs.YthodilggomedgaaDoor.TokP
set_option linter.unusedVariables false
set_option linter.unusedSimpArgs false
set_option linter.unusedSectionVars false
set_option linter.all false
set_option maxRecDepth 100000 in
theorem awake_ok : maquettelaw06_awake.f 60 = some true := by decide +kernel
theorem awake_k : ∀ k, maquettelaw06_awake.f (k + 60) = some true
  | 0 => awake_ok
  | k + 1 => maquettelaw06_awake.mono _ _ (awake_k k)
theorem awake_at {k : Nat} (h : 60 ≤ k) : maquettelaw06_awake.f k = some true := by
  have := awake_k (k - 60)
  rwa [show k - 60 + 60 = k from by omega] at this
/-- What may stand in a piece. -/
def pt (c : Int) : Bool := lt c || dg c || c == 46 || c == 47 || c == 45
theorem part_f (c : Int) : token_part.f c = some (pt c) := by
  unfold token_part.f pt
  rw [letter_f, Option.bind_some]
  by_cases h : lt c = true
  · rw [if_pos h]; simp [h]
  · rw [if_neg h, digit_f, Option.bind_some]
    by_cases h2 : dg c = true
    · rw [if_pos h2]; simp [h2]
    · rw [if_neg h2]
      simp only [Bool.not_eq_true] at h h2
      rw [h, h2]
      by_cases h3 : c = 46
      · simp [h3]
      · rw [if_neg h3]
        by_cases h4 : c = 47
        · simp [h4]
        · simp [h3, h4]
theorem lpart_f (c : Int) : maquettelaw06_part.f c = some (pt c) := by
  unfold maquettelaw06_part.f pt lt dg
  by_cases a : 97 ≤ c <;> by_cases b : c ≤ 122 <;> by_cases d : 48 ≤ c <;> by_cases e : c ≤ 57 <;> by_cases f : c = 46 <;> by_cases g : c = 47 <;> simp [a, b, d, e, f, g, show ((97 : Int) ≤ c) = (c ≥ 97) from rfl, show ((48 : Int) ≤ c) = (c ≥ 48) from rfl] <;> omega
theorem scan (P : Nat → Prop) (n : Nat) : ∀ d p, p + d = n → ∃ q, p ≤ q ∧ q ≤ n ∧ (∀ i, p ≤ i → i < q → P i) ∧ (q = n ∨ ¬ P q)
  | 0, p, h => ⟨p, by omega, by omega, fun i _ _ => by omega, Or.inl (by omega)⟩
  | d + 1, p, h => by
    by_cases hp : P p
    · obtain ⟨q, h1, h2, h3, h4⟩ := scan P n d (p + 1) (by omega)
      refine ⟨q, by omega, h2, fun i a b => ?_, h4⟩
      by_cases e : i = p
      · rw [e]; exact hp
      · exact h3 i (by omega) b
    · exact ⟨p, by omega, by omega, fun i _ _ => by omega, Or.inr hp⟩
def eof (x : ByteArray) : S33 := ⟨0, ⟨#[]⟩, 0, ⟨0, 0⟩, (x.size : Int)⟩
def sg (x : ByteArray) (p : Nat) : S33 := ⟨4, x.extract p (p + 1), 0, ⟨0, 0⟩, (p : Int)⟩
def wd (r : Pc) (p : Nat) : S33 := ⟨r.1, r.2.1, r.2.2.1, ⟨r.2.2.2.1, r.2.2.2.2.1⟩, (p : Int)⟩
/-- What the program ends in, from a place on. -/
def Y (x : ByteArray) (a : List S33) (p : Nat) (R : List S33 × Option Int) : Prop := ∃ k, token_Cut.l0 k x a (p : Int) = some R
/-- What the law ends in. -/
def L (x : ByteArray) (a : List S33) (p : Nat) (R : List S33 × Int) : Prop := ∃ k, maquettelaw06_cut.l0 k x a (p : Int) = some R
def bl (c : Int) : Prop := c = 32 ∨ c = 9 ∨ c = 10
def sn (c : Int) : Prop := c = 123 ∨ c = 125 ∨ c = 59
section
variable {x : ByteArray} {a : List S33} {p : Nat} (hx : x.size ≤ 65536) (ha : a.length ≤ 65536)
include hx ha
theorem Y.eof (h : x.size ≤ p) : Y x a p (a ++ [TokC.eof x], none) := by
  refine ⟨1, ?_⟩
  rw [token_Cut.l0, if_neg (by omega), if_pos (by omega)]
  rfl
theorem L.eof (h : x.size ≤ p) : L x a p (a ++ [TokC.eof x], -1) := by
  refine ⟨1, ?_⟩
  rw [maquettelaw06_cut.l0, if_neg (by omega), if_pos (by omega)]
  rfl
theorem Y.blank {R} (hp : p < x.size) (hc : bl (bt x p)) (h : Y x a (p + 1) R) : Y x a p R := by
  obtain ⟨k, h⟩ := h
  refine ⟨k + 2, ?_⟩
  have hj : token_Cut.j1 (k + 1) x a p (bt x p) (wrap64 ((p : Int) + 1)) true = some R := by
    rw [token_Cut.j1, if_pos rfl, w1 (by omega)]
    exact h
  rw [token_Cut.l0, if_pos (by omega), if_pos (by omega)]
  rcases hc with e | e | e
  · rw [if_pos e]; exact hj
  · rw [if_neg (by omega), if_pos e]; exact hj
  · rw [if_neg (by omega), if_neg (by omega), e]
    rw [e] at hj
    exact hj
theorem L.blank {R} (hp : p < x.size) (hc : bl (bt x p)) (h : L x a (p + 1) R) : L x a p R := by
  obtain ⟨k, h⟩ := h
  refine ⟨k + 2, ?_⟩
  have hj : maquettelaw06_cut.j1 (k + 1) x a p (bt x p) true = some R := by
    rw [maquettelaw06_cut.j1, if_pos rfl, w1 (by omega)]
    exact h
  rw [maquettelaw06_cut.l0, if_pos (by omega), if_pos (by omega)]
  rcases hc with e | e | e
  · rw [if_pos e]; exact hj
  · rw [if_neg (by omega), if_pos e]; exact hj
  · rw [if_neg (by omega), if_neg (by omega), e]
    rw [e] at hj
    exact hj
theorem Y.in_ {R} (hp : p < x.size) (hc : ¬ bl (bt x p)) (h : ∃ k, token_Cut.j1 k x a p (bt x p) ((p + 1 : Nat) : Int) false = some R) : Y x a p R := by
  obtain ⟨k, h⟩ := h
  refine ⟨k + 1, ?_⟩
  unfold bl at hc
  have hf : (bt x (p : Int) == 10) = false := by simp; omega
  rw [token_Cut.l0, if_pos (by omega), if_pos (by omega), if_neg (by omega), if_neg (by omega), hf, w1 (by omega)]
  exact h
theorem L.in_ {R} (hp : p < x.size) (hc : ¬ bl (bt x p)) (h : ∃ k, maquettelaw06_cut.j1 k x a p (bt x p) false = some R) : L x a p R := by
  obtain ⟨k, h⟩ := h
  refine ⟨k + 1, ?_⟩
  unfold bl at hc
  have hf : (bt x (p : Int) == 10) = false := by simp; omega
  rw [maquettelaw06_cut.l0, if_pos (by omega), if_pos (by omega), if_neg (by omega), if_neg (by omega), hf]
  exact h
/-- A comment, up to its line's end. -/
theorem Y.com {R} {q : Nat} (hq : q ≤ x.size) (he : q = x.size ∨ bt x q = 10) (h : Y x a q R) : ∀ d i, i + d = q → (∀ j, i ≤ j → j < q → bt x j ≠ 10) → ∃ k, token_Cut.l1 k x a (i : Int) = some R
  | 0, i, hi, hn => by
    obtain ⟨k, h⟩ := h
    obtain rfl : i = q := by omega
    refine ⟨k + 1, ?_⟩
    rw [token_Cut.l1]
    rcases he with e | e
    · rw [if_neg (by omega)]; exact h
    · by_cases hl : (i : Int) < (x.size : Int)
      · rw [if_pos hl, if_pos (by omega), if_pos e]; exact h
      · rw [if_neg hl]; exact h
  | d + 1, i, hi, hn => by
    obtain ⟨k, e⟩ := Y.com hq he h d (i + 1) (by omega) (fun j a b => hn j (by omega) b)
    refine ⟨k + 1, ?_⟩
    rw [token_Cut.l1, if_pos (by omega), if_pos (by omega), if_neg (hn i (by omega) (by omega)), w1 (by omega)]
    exact e
theorem L.com {R} {q : Nat} (hq : q ≤ x.size) (he : q = x.size ∨ bt x q = 10) (h : L x a q R) : ∀ d i, i + d = q → (∀ j, i ≤ j → j < q → bt x j ≠ 10) → ∃ k, maquettelaw06_cut.l1 k x a (i : Int) = some R
  | 0, i, hi, hn => by
    obtain ⟨k, h⟩ := h
    obtain rfl : i = q := by omega
    refine ⟨k + 1, ?_⟩
    rw [maquettelaw06_cut.l1]
    rcases he with e | e
    · rw [if_neg (by omega)]; exact h
    · by_cases hl : (i : Int) < (x.size : Int)
      · rw [if_pos hl, if_pos (by omega), if_pos e]; exact h
      · rw [if_neg hl]; exact h
  | d + 1, i, hi, hn => by
    obtain ⟨k, e⟩ := L.com hq he h d (i + 1) (by omega) (fun j a b => hn j (by omega) b)
    refine ⟨k + 1, ?_⟩
    rw [maquettelaw06_cut.l1, if_pos (by omega), if_pos (by omega), if_neg (hn i (by omega) (by omega)), w1 (by omega)]
    exact e
/-- A sign. -/
theorem Y.sign {R} (hp : p < x.size) (hc : sn (bt x p)) (h : Y x (a ++ [sg x p]) (p + 1) R) : Y x a p R := by
  refine Y.in_ hx ha hp (by unfold sn at hc; unfold bl; omega) ?_
  obtain ⟨k, h⟩ := h
  refine ⟨k + 1, ?_⟩
  have e : (⟨4, x.extract ((p : Int)).toNat (((p + 1 : Nat) : Int)).toNat, 0, (⟨0, 0⟩ : S31), (p : Int)⟩ : S33) = sg x p := rfl
  have hb : (if 0 ≤ (p : Int) then (if (p : Int) ≤ ((p + 1 : Nat) : Int) then (if ((p + 1 : Nat) : Int) ≤ (x.size : Int) then (if a.length < 2513169434916 then token_Cut.l0 k x (a ++ [(⟨4, x.extract ((p : Int)).toNat (((p + 1 : Nat) : Int)).toNat, 0, (⟨0, 0⟩ : S31), (p : Int)⟩ : S33)]) ((p + 1 : Nat) : Int) else none) else none) else none) else none) = some R := by
    rw [if_pos (by omega), if_pos (by omega), if_pos (by omega), if_pos (by omega), e]
    exact h
  rw [token_Cut.j1, if_neg (by decide)]
  rcases hc with c | c | c
  · rw [if_neg (by omega), if_pos c]; exact hb
  · rw [if_neg (by omega), if_neg (by omega), if_pos c]; exact hb
  · rw [if_neg (by omega), if_neg (by omega), if_neg (by omega), if_pos c]; exact hb
theorem L.sign {R} (hp : p < x.size) (hc : sn (bt x p)) (h : L x (a ++ [sg x p]) (p + 1) R) : L x a p R := by
  refine L.in_ hx ha hp (by unfold sn at hc; unfold bl; omega) ?_
  obtain ⟨k, h⟩ := h
  refine ⟨k + 2, ?_⟩
  have e : (⟨4, x.extract ((p : Int)).toNat (((p + 1 : Nat) : Int)).toNat, 0, (⟨0, 0⟩ : S31), (p : Int)⟩ : S33) = sg x p := rfl
  have hb : maquettelaw06_cut.j3 (k + 1) x a p true = some R := by
    rw [maquettelaw06_cut.j3, if_pos rfl, w1 (by omega), if_pos (by omega), if_pos (by omega), if_pos (by omega), if_pos (by omega), e]
    exact h
  rw [maquettelaw06_cut.j1, if_neg (by decide)]
  rcases hc with c | c | c
  · rw [if_neg (by omega), if_pos c]; exact hb
  · rw [if_neg (by omega), if_neg (by omega), if_pos c]; exact hb
  · rw [if_neg (by omega), if_neg (by omega), if_neg (by omega), c]; exact hb
/-- A comment, whole. -/
theorem Y.note {R} {q : Nat} (hp : p < x.size) (hc : bt x p = 35) (hq : p < q) (hqx : q ≤ x.size) (hn : ∀ j, p + 1 ≤ j → j < q → bt x j ≠ 10) (he : q = x.size ∨ bt x q = 10) (h : Y x a q R) : Y x a p R := by
  refine Y.in_ hx ha hp (by unfold bl; omega) ?_
  obtain ⟨k, h⟩ := Y.com hx ha hqx he h (q - (p + 1)) (p + 1) (by omega) hn
  refine ⟨k + 1, ?_⟩
  rw [token_Cut.j1, if_neg (by decide), if_pos hc]
  exact h
theorem L.note {R} {q : Nat} (hp : p < x.size) (hc : bt x p = 35) (hq : p < q) (hqx : q ≤ x.size) (hn : ∀ j, p + 1 ≤ j → j < q → bt x j ≠ 10) (he : q = x.size ∨ bt x q = 10) (h : L x a q R) : L x a p R := by
  refine L.in_ hx ha hp (by unfold bl; omega) ?_
  obtain ⟨k, h⟩ := L.com hx ha hqx he h (q - p) p (by omega) (fun j a b => by
    by_cases e : j = p
    · rw [e, hc]; decide
    · exact hn j (by omega) b)
  refine ⟨k + 1, ?_⟩
  rw [maquettelaw06_cut.j1, if_neg (by decide), if_pos hc]
  exact h
theorem Y.scan {R} {q : Nat} (hq : q ≤ x.size) (hpq : p ≤ q) (he : q = x.size ∨ pt (bt x q) = false) (h : ∃ k, token_Cut.j4 k x a p q = some R) : ∀ d i, i + d = q → (∀ j, i ≤ j → j < q → pt (bt x j) = true) → ∃ k, token_Cut.l2 k x a p (i : Int) = some R
  | 0, i, hi, hn => by
    obtain ⟨k, h⟩ := h
    obtain rfl : i = q := by omega
    refine ⟨k + 1, ?_⟩
    rw [token_Cut.l2]
    by_cases hl : (i : Int) < (x.size : Int)
    · rcases he with e | e
      · omega
      · rw [if_pos hl, if_pos (by omega), part_f, Option.bind_some, e, if_neg (by decide)]
        exact h
    · rw [if_neg hl]; exact h
  | d + 1, i, hi, hn => by
    obtain ⟨k, e⟩ := Y.scan hq hpq he h d (i + 1) (by omega) (fun j a b => hn j (by omega) b)
    refine ⟨k + 1, ?_⟩
    rw [token_Cut.l2, if_pos (by omega), if_pos (by omega), part_f, Option.bind_some, if_pos (hn i (by omega) (by omega)), w1 (by omega)]
    exact e
/-- What the law does behind a piece. -/
def lj4 (k : Nat) (x0 : ByteArray) (x4 : List S33) (x5 x7 : Int) : Option (List S33 × Int) := if 0 ≤ x5 then (if x5 ≤ x7 then (if x7 ≤ (x0.size : Int) then ((maquettelaw06_piece.f k (x0.extract (x5 : Int).toNat (x7 : Int).toNat)).bind fun bt202 => (if bt202.2.2.2.2.2.2 = true then (if x4.length < 2513169434916 then (maquettelaw06_cut.l0 k x0 (x4 ++ [(⟨bt202.1, bt202.2.1, bt202.2.2.1, (⟨bt202.2.2.2.1, bt202.2.2.2.2.1⟩ : S31), x5⟩ : S33)]) x7) else (none)) else (some (([] : List (S33)), x5)))) else (none)) else (none)) else (none)
theorem L.scan {R} {q : Nat} (hq : q ≤ x.size) (hpq : p ≤ q) (he : q = x.size ∨ pt (bt x q) = false) (h : ∃ k, lj4 k x a p q = some R) : ∀ d i, i + d = q → (∀ j, i ≤ j → j < q → pt (bt x j) = true) → ∃ k, maquettelaw06_cut.l2 k x a p (i : Int) = some R
  | 0, i, hi, hn => by
    obtain ⟨k, h⟩ := h
    obtain rfl : i = q := by omega
    refine ⟨k + 1, ?_⟩
    rw [maquettelaw06_cut.l2]
    by_cases hl : (i : Int) < (x.size : Int)
    · rcases he with e | e
      · omega
      · rw [if_pos hl, if_pos (by omega), lpart_f, Option.bind_some, e, if_neg (by decide)]
        exact h
    · rw [if_neg hl]; exact h
  | d + 1, i, hi, hn => by
    obtain ⟨k, e⟩ := L.scan hq hpq he h d (i + 1) (by omega) (fun j a b => hn j (by omega) b)
    refine ⟨k + 1, ?_⟩
    rw [maquettelaw06_cut.l2, if_pos (by omega), if_pos (by omega), lpart_f, Option.bind_some, if_pos (hn i (by omega) (by omega)), w1 (by omega)]
    exact e
theorem Y.other {R} {q : Nat} (hp : p < x.size) (hb : ¬ bl (bt x p)) (hs : ¬ sn (bt x p)) (hc : bt x p ≠ 35) (hq : q ≤ x.size) (hpq : p ≤ q) (hn : ∀ j, p ≤ j → j < q → pt (bt x j) = true) (he : q = x.size ∨ pt (bt x q) = false) (h : ∃ k, token_Cut.j4 k x a p q = some R) : Y x a p R := by
  refine Y.in_ hx ha hp hb ?_
  obtain ⟨k, h⟩ := Y.scan hx ha hq hpq he h (q - p) p (by omega) hn
  refine ⟨k + 1, ?_⟩
  unfold sn at hs
  rw [token_Cut.j1, if_neg (by decide), if_neg hc, if_neg (by omega), if_neg (by omega), if_neg (by omega)]
  exact h
theorem L.other {R} {q : Nat} (hp : p < x.size) (hb : ¬ bl (bt x p)) (hs : ¬ sn (bt x p)) (hc : bt x p ≠ 35) (hq : q ≤ x.size) (hpq : p ≤ q) (hn : ∀ j, p ≤ j → j < q → pt (bt x j) = true) (he : q = x.size ∨ pt (bt x q) = false) (h : ∃ k, lj4 k x a p q = some R) : L x a p R := by
  refine L.in_ hx ha hp hb ?_
  obtain ⟨k, h⟩ := L.scan hx ha hq hpq he h (q - p) p (by omega) hn
  refine ⟨k + 2, ?_⟩
  unfold sn at hs
  have hf : (bt x (p : Int) == 59) = false := by simp; omega
  rw [maquettelaw06_cut.j1, if_neg (by decide), if_neg hc, if_neg (by omega), if_neg (by omega), hf, maquettelaw06_cut.j3, if_neg (by decide)]
  exact h
theorem Y.word {R} {q : Nat} {r : Pc} (hp : p < x.size) (hb : ¬ bl (bt x p)) (hs : ¬ sn (bt x p)) (hc : bt x p ≠ 35) (hq : q ≤ x.size) (hpq : p ≤ q) (hn : ∀ j, p ≤ j → j < q → pt (bt x j) = true) (he : q = x.size ∨ pt (bt x q) = false) (hr : ∃ K, ∀ k, K ≤ k → token_piece.f k (x.extract p q) = some r) (hf : r.2.2.2.2.2.2 = true) (h : Y x (a ++ [wd r p]) q R) : Y x a p R := by
  refine Y.other hx ha hp hb hs hc hq hpq hn he ?_
  obtain ⟨k0, hr⟩ := hr
  obtain ⟨k, h⟩ := h
  have h' := leO_up (F := fun k => token_Cut.l0 k x (a ++ [wd r p]) (q : Int)) (fun k => (token_Cut.mono_l k).1 _ _ _) (show k ≤ k + k0 by omega) h
  refine ⟨k + k0 + 1, ?_⟩
  rw [token_Cut.j4, if_pos (by omega), if_pos (by omega), if_pos (by omega), Int.toNat_natCast, Int.toNat_natCast, hr _ (by omega), Option.bind_some, if_pos hf, if_pos (by omega)]
  exact h'
theorem Y.bad {q : Nat} {r : Pc} (hp : p < x.size) (hb : ¬ bl (bt x p)) (hs : ¬ sn (bt x p)) (hc : bt x p ≠ 35) (hq : q ≤ x.size) (hpq : p ≤ q) (hn : ∀ j, p ≤ j → j < q → pt (bt x j) = true) (he : q = x.size ∨ pt (bt x q) = false) (hr : ∃ K, ∀ k, K ≤ k → token_piece.f k (x.extract p q) = some r) (hf : r.2.2.2.2.2.2 = false) : Y x a p ([], some ((p : Int) * 16 + 1)) := by
  refine Y.other hx ha hp hb hs hc hq hpq hn he ?_
  obtain ⟨k0, hr⟩ := hr
  refine ⟨k0 + 1, ?_⟩
  rw [token_Cut.j4, if_pos (by omega), if_pos (by omega), if_pos (by omega), Int.toNat_natCast, Int.toNat_natCast, hr _ (by omega), Option.bind_some, if_neg (by rw [hf]; decide)]
  unfold api_Wrap.f
  rw [if_pos (by omega), Option.bind_some]
theorem L.word {R} {q : Nat} {r : Pc} (hp : p < x.size) (hb : ¬ bl (bt x p)) (hs : ¬ sn (bt x p)) (hc : bt x p ≠ 35) (hq : q ≤ x.size) (hpq : p ≤ q) (hn : ∀ j, p ≤ j → j < q → pt (bt x j) = true) (he : q = x.size ∨ pt (bt x q) = false) (hr : ∃ K, ∀ k, K ≤ k → maquettelaw06_piece.f k (x.extract p q) = some r) (hf : r.2.2.2.2.2.2 = true) (h : L x (a ++ [wd r p]) q R) : L x a p R := by
  refine L.other hx ha hp hb hs hc hq hpq hn he ?_
  obtain ⟨k0, hr⟩ := hr
  obtain ⟨k, h⟩ := h
  have h' := leO_up (F := fun k => maquettelaw06_cut.l0 k x (a ++ [wd r p]) (q : Int)) (fun k => (maquettelaw06_cut.mono_l k).1 _ _ _) (show k ≤ k + k0 by omega) h
  refine ⟨k + k0, ?_⟩
  unfold lj4
  rw [if_pos (by omega), if_pos (by omega), if_pos (by omega), Int.toNat_natCast, Int.toNat_natCast, hr _ (by omega), Option.bind_some, if_pos hf, if_pos (by omega)]
  exact h'
theorem L.bad {q : Nat} {r : Pc} (hp : p < x.size) (hb : ¬ bl (bt x p)) (hs : ¬ sn (bt x p)) (hc : bt x p ≠ 35) (hq : q ≤ x.size) (hpq : p ≤ q) (hn : ∀ j, p ≤ j → j < q → pt (bt x j) = true) (he : q = x.size ∨ pt (bt x q) = false) (hr : ∃ K, ∀ k, K ≤ k → maquettelaw06_piece.f k (x.extract p q) = some r) (hf : r.2.2.2.2.2.2 = false) : L x a p ([], (p : Int)) := by
  refine L.other hx ha hp hb hs hc hq hpq hn he ?_
  obtain ⟨k0, hr⟩ := hr
  refine ⟨k0, ?_⟩
  unfold lj4
  rw [if_pos (by omega), if_pos (by omega), if_pos (by omega), Int.toNat_natCast, Int.toNat_natCast, hr _ (by omega), Option.bind_some, if_neg (by rw [hf]; decide)]
end
/-- A row of tokens that stand in a text, none ahead of the end of the one before. -/
def Placed (x : ByteArray) : Nat → List S33 → Prop
  | _, [] => True
  | p, t :: ts => ∃ i j : Nat, p ≤ i ∧ i ≤ j ∧ j ≤ x.size ∧ t.f4 = (i : Int) ∧ t.f1 = x.extract i j ∧ Placed x j ts
theorem ext_size {x : ByteArray} {i j : Nat} (h : j ≤ x.size) : (x.extract i j).size = j - i := by
  rw [ByteArray.size_extract]; omega
/-- What both tell. -/
theorem cut_eq (x : ByteArray) (hx : x.size ≤ 65536) : ∀ d p (a : List S33), p + d = x.size → a.length ≤ p →
    (∃ ts, ts.length + p ≤ x.size ∧ Placed x p (ts ++ [eof x]) ∧ Y x a p (a ++ (ts ++ [eof x]), none) ∧ L x a p (a ++ (ts ++ [eof x]), -1)) ∨ (∃ q : Nat, p ≤ q ∧ q < x.size ∧ Y x a p ([], some ((q : Int) * 16 + 1)) ∧ L x a p ([], (q : Int))) := by
  intro d
  induction d using Nat.strongRecOn with
  | _ d ih =>
  intro p a hd hap
  have ha : a.length ≤ 65536 := by omega
  by_cases h0 : x.size ≤ p
  · refine Or.inl ⟨[], by simp; omega, ⟨x.size, x.size, by omega, by omega, by omega, rfl, ?_, trivial⟩, Y.eof hx ha h0, L.eof hx ha h0⟩
    apply ByteArray.ext
    show (#[] : Array UInt8) = (x.extract x.size x.size).data
    have := ext_size (x := x) (i := x.size) (j := x.size) (by omega)
    exact (Array.eq_empty_of_size_eq_zero (by simp)).symm
  have hp : p < x.size := by omega
  by_cases hb : bl (bt x p)
  · rcases ih (d - 1) (by omega) (p + 1) a (by omega) (by omega) with ⟨ts, hl, h1, h2, h3⟩ | ⟨q, h1, h2, h3, h4⟩
    · exact Or.inl ⟨ts, by omega, by
        cases ts with
        | nil => obtain ⟨i, j, b1, b2⟩ := h1; exact ⟨i, j, by omega, b2⟩
        | cons t ts => obtain ⟨i, j, b1, b2⟩ := h1; exact ⟨i, j, by omega, b2⟩, Y.blank hx ha hp hb h2, L.blank hx ha hp hb h3⟩
    · exact Or.inr ⟨q, by omega, h2, Y.blank hx ha hp hb h3, L.blank hx ha hp hb h4⟩
  by_cases hc : bt x p = 35
  · obtain ⟨q, q1, q2, q3, q4⟩ := TokC.scan (fun i => bt x (i : Int) ≠ 10) x.size (x.size - (p + 1)) (p + 1) (by omega)
    have q4' : q = x.size ∨ bt x q = 10 := by
      rcases q4 with e | e
      · exact Or.inl e
      · exact Or.inr (Decidable.not_not.1 e)
    rcases ih (x.size - q) (by omega) q a (by omega) (by omega) with ⟨ts, hl, h1, h2, h3⟩ | ⟨r, h1, h2, h3, h4⟩
    · exact Or.inl ⟨ts, by omega, by
        cases ts with
        | nil => obtain ⟨i, j, b1, b2⟩ := h1; exact ⟨i, j, by omega, b2⟩
        | cons t ts => obtain ⟨i, j, b1, b2⟩ := h1; exact ⟨i, j, by omega, b2⟩, Y.note hx ha hp hc (by omega) q2 q3 q4' h2, L.note hx ha hp hc (by omega) q2 q3 q4' h3⟩
    · exact Or.inr ⟨r, by omega, h2, Y.note hx ha hp hc (by omega) q2 q3 q4' h3, L.note hx ha hp hc (by omega) q2 q3 q4' h4⟩
  by_cases hs : sn (bt x p)
  · rcases ih (d - 1) (by omega) (p + 1) (a ++ [sg x p]) (by omega) (by simp; omega) with ⟨ts, hl, h1, h2, h3⟩ | ⟨q, h1, h2, h3, h4⟩
    · refine Or.inl ⟨sg x p :: ts, by simp only [List.length_cons]; omega, ⟨p, p + 1, by omega, by omega, by omega, rfl, rfl, h1⟩, ?_, ?_⟩
      · have := Y.sign hx ha hp hs h2
        rwa [List.append_assoc] at this
      · have := L.sign hx ha hp hs h3
        rwa [List.append_assoc] at this
    · exact Or.inr ⟨q, by omega, h2, Y.sign hx ha hp hs h3, L.sign hx ha hp hs h4⟩
  obtain ⟨q, q1, q2, q3, q4⟩ := TokC.scan (fun i => pt (bt x (i : Int)) = true) x.size (x.size - p) p (by omega)
  have q4' : q = x.size ∨ pt (bt x q) = false := by
    rcases q4 with e | e
    · exact Or.inl e
    · exact Or.inr (by simpa using e)
  have hz := ext_size (x := x) (i := p) q2
  obtain ⟨r, r1, r2, r3, r4⟩ := piece_eq (x.extract p q) (by omega)
  cases hf : r.2.2.2.2.2.2 with
  | false => exact Or.inr ⟨p, by omega, hp, Y.bad hx ha hp hb hs hc q2 q1 q3 q4' ⟨_, r1⟩ hf, L.bad hx ha hp hb hs hc q2 q1 q3 q4' r2 hf⟩
  | true =>
    have hpq : p < q := by
      rcases Nat.lt_or_ge p q with h | h
      · exact h
      · have := r3 (by omega)
        rw [hf] at this
        cases this
    rcases ih (x.size - q) (by omega) q (a ++ [wd r p]) (by omega) (by simp; omega) with ⟨ts, hl, h1, h2, h3⟩ | ⟨w, h1, h2, h3, h4⟩
    · refine Or.inl ⟨wd r p :: ts, by simp only [List.length_cons]; omega, ⟨p, q, by omega, by omega, by omega, rfl, r4 hf, h1⟩, ?_, ?_⟩
      · have := Y.word hx ha hp hb hs hc q2 q1 q3 q4' ⟨_, r1⟩ hf h2
        rwa [List.append_assoc] at this
      · have := L.word hx ha hp hb hs hc q2 q1 q3 q4' r2 hf h3
        rwa [List.append_assoc] at this
    · exact Or.inr ⟨w, by omega, h2, Y.word hx ha hp hb hs hc q2 q1 q3 q4' ⟨_, r1⟩ hf h3, L.word hx ha hp hb hs hc q2 q1 q3 q4' r2 hf h4⟩
/-- The whole text. -/
theorem cut_all (x : ByteArray) (hx : x.size ≤ 65536) :
    (∃ ts : List S33, ts.length ≤ x.size ∧ Placed x 0 (ts ++ [eof x]) ∧ (∃ K, ∀ k, K ≤ k → token_Cut.f k x = some (ts ++ [eof x], none)) ∧ (∃ K, ∀ k, K ≤ k → maquettelaw06_cut.f k x = some (ts ++ [eof x], -1))) ∨ (∃ q : Nat, q < x.size ∧ (∃ K, ∀ k, K ≤ k → token_Cut.f k x = some ([], some ((q : Int) * 16 + 1))) ∧ (∃ K, ∀ k, K ≤ k → maquettelaw06_cut.f k x = some ([], (q : Int)))) := by
  have hY : ∀ R, Y x [] 0 R → ∃ K, ∀ k, K ≤ k → token_Cut.f k x = some R := by
    intro R ⟨K, h⟩
    refine ⟨K, fun k hk => ?_⟩
    unfold token_Cut.f
    rw [if_neg (by omega)]
    exact leO_up (F := fun k => token_Cut.l0 k x [] 0) (fun k => (token_Cut.mono_l k).1 _ _ _) hk h
  have hL : ∀ R, L x [] 0 R → ∃ K, ∀ k, K ≤ k → maquettelaw06_cut.f k x = some R := by
    intro R ⟨K, h⟩
    exact ⟨K, fun k hk => leO_up (F := fun k => maquettelaw06_cut.l0 k x [] 0) (fun k => (maquettelaw06_cut.mono_l k).1 _ _ _) hk h⟩
  rcases cut_eq x hx x.size 0 [] (by omega) (by simp) with ⟨ts, hl, h1, h2, h3⟩ | ⟨q, h1, h2, h3, h4⟩
  · exact Or.inl ⟨ts, by omega, h1, hY _ h2, hL _ h3⟩
  · exact Or.inr ⟨q, h2, hY _ h3, hL _ h4⟩
end Go.Proofs.YthodilggomedgaaDoor.TokC
