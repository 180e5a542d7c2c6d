/- Plain law: a text cut into tokens: the program and the law tell one and the same of it. -/
import Derived.Test.YthodilggomedgaaDoorJ5
import Derived.Test.YthodilggomedgaaDoorPTkx16
import Derived.Test.YthodilggomedgaaDoorPTkx23
import Derived.Test.YthodilggomedgaaDoorPTkx17
namespace Go.Proofs.YthodilggomedgaaDoor.TokC
open Go.RowKit Go.Proofs.YthodilggomedgaaDoor.PTk Go.Proofs.YthodilggomedgaaDoorW.PrintWords Go.Proofs.YthodilggomedgaaDoorW.PrintLast Go.Proofs.YthodilggomedgaaDoorW.PrintMore Go.Proofs.YthodilggomedgaaDoor.Dec Go.Proofs.YthodilggomedgaaDoor.TokM Go.Proofs.YthodilggomedgaaDoor.TokP
set_option linter.unusedVariables false
set_option linter.unusedSimpArgs false
set_option linter.unusedSectionVars false
set_option linter.all false
set_option maxRecDepth 100000 in
theorem awake_ok : maquettelaw06_awake.f 60 = some true := by decide +kernel
theorem awake_k : ∀ k, maquettelaw06_awake.f (k + 60) = some true
  | 0 => awake_ok
  | k + 1 => maquettelaw06_awake.mono _ _ (awake_k k)
theorem awake_at {k : Nat} (h : 60 ≤ k) : maquettelaw06_awake.f k = some true := by
  have := awake_k (k - 60)
  rwa [show k - 60 + 60 = k from by omega] at this
def eof (x : ByteArray) : S33 := ⟨0, ⟨#[]⟩, 0, ⟨0, 0⟩, (x.size : Int)⟩
def sg (x : ByteArray) (p : Nat) : S33 := ⟨4, x.extract p (p + 1), 0, ⟨0, 0⟩, (p : Int)⟩
/-- What the program ends in, from a place on. -/
def Y (x : ByteArray) (a : List S33) (p : Nat) (R : List S33 × Option Int) : Prop := ∃ k, token_Cut.l0 k x a (p : Int) = some R
/-- What the law ends in. -/
def L (x : ByteArray) (a : List S33) (p : Nat) (R : List S33 × Int) : Prop := ∃ k, maquettelaw06_cut.l0 k x a (p : Int) = some R
def bl (c : Int) : Prop := c = 32 ∨ c = 9 ∨ c = 10
def sn (c : Int) : Prop := c = 123 ∨ c = 125 ∨ c = 59
section
variable {x : ByteArray} {a : List S33} {p : Nat} (hx : x.size ≤ 65536) (ha : a.length ≤ 65536)
include hx ha
theorem Y.eof (h : x.size ≤ p) : Y x a p (a ++ [TokC.eof x], none) := by
  refine ⟨1, ?_⟩
  rw [token_Cut.l0, if_neg (by omega), if_pos (by omega)]
  rfl
theorem L.eof (h : x.size ≤ p) : L x a p (a ++ [TokC.eof x], -1) := by
  refine ⟨1, ?_⟩
  rw [maquettelaw06_cut.l0, if_neg (by omega), if_pos (by omega)]
  rfl
theorem Y.in_ {R} (hp : p < x.size) (hc : ¬ bl (bt x p)) (h : ∃ k, token_Cut.j1 k x a p (bt x p) ((p + 1 : Nat) : Int) false = some R) : Y x a p R := by
  obtain ⟨k, h⟩ := h
  refine ⟨k + 1, ?_⟩
  unfold bl at hc
  have hf : (bt x (p : Int) == 10) = false := by simp; omega
  rw [token_Cut.l0, if_pos (by omega), if_pos (by omega), if_neg (by omega), if_neg (by omega), hf, w1 (by omega)]
  exact h
theorem L.in_ {R} (hp : p < x.size) (hc : ¬ bl (bt x p)) (h : ∃ k, maquettelaw06_cut.j1 k x a p (bt x p) false = some R) : L x a p R := by
  obtain ⟨k, h⟩ := h
  refine ⟨k + 1, ?_⟩
  unfold bl at hc
  have hf : (bt x (p : Int) == 10) = false := by simp; omega
  rw [maquettelaw06_cut.l0, if_pos (by omega), if_pos (by omega), if_neg (by omega), if_neg (by omega), hf]
  exact h
/-- A sign. -/
theorem Y.sign {R} (hp : p < x.size) (hc : sn (bt x p)) (h : Y x (a ++ [sg x p]) (p + 1) R) : Y x a p R := by
  refine Y.in_ hx ha hp (by unfold sn at hc; unfold bl; omega) ?_
  obtain ⟨k, h⟩ := h
  refine ⟨k + 1, ?_⟩
  have e : (⟨4, x.extract ((p : Int)).toNat (((p + 1 : Nat) : Int)).toNat, 0, (⟨0, 0⟩ : S31), (p : Int)⟩ : S33) = sg x p := rfl
  have hb : (if 0 ≤ (p : Int) then (if (p : Int) ≤ ((p + 1 : Nat) : Int) then (if ((p + 1 : Nat) : Int) ≤ (x.size : Int) then (if a.length < 2513169434916 then token_Cut.l0 k x (a ++ [(⟨4, x.extract ((p : Int)).toNat (((p + 1 : Nat) : Int)).toNat, 0, (⟨0, 0⟩ : S31), (p : Int)⟩ : S33)]) ((p + 1 : Nat) : Int) else none) else none) else none) else none) = some R := by
    rw [if_pos (by omega), if_pos (by omega), if_pos (by omega), if_pos (by omega), e]
    exact h
  rw [token_Cut.j1, if_neg (by decide)]
  rcases hc with c | c | c
  · rw [if_neg (by omega), if_pos c]; exact hb
  · rw [if_neg (by omega), if_neg (by omega), if_pos c]; exact hb
  · rw [if_neg (by omega), if_neg (by omega), if_neg (by omega), if_pos c]; exact hb
theorem L.sign {R} (hp : p < x.size) (hc : sn (bt x p)) (h : L x (a ++ [sg x p]) (p + 1) R) : L x a p R := by
  refine L.in_ hx ha hp (by unfold sn at hc; unfold bl; omega) ?_
  obtain ⟨k, h⟩ := h
  refine ⟨k + 2, ?_⟩
  have e : (⟨4, x.extract ((p : Int)).toNat (((p + 1 : Nat) : Int)).toNat, 0, (⟨0, 0⟩ : S31), (p : Int)⟩ : S33) = sg x p := rfl
  have hb : maquettelaw06_cut.j3 (k + 1) x a p true = some R := by
    rw [maquettelaw06_cut.j3, if_pos rfl, w1 (by omega), if_pos (by omega), if_pos (by omega), if_pos (by omega), if_pos (by omega), e]
    exact h
  rw [maquettelaw06_cut.j1, if_neg (by decide)]
  rcases hc with c | c | c
  · rw [if_neg (by omega), if_pos c]; exact hb
  · rw [if_neg (by omega), if_neg (by omega), if_pos c]; exact hb
  · rw [if_neg (by omega), if_neg (by omega), if_neg (by omega), c]; exact hb
end
end Go.Proofs.YthodilggomedgaaDoor.TokC
