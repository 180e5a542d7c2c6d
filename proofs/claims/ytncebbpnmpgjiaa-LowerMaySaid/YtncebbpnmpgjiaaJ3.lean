/- Texts of this work, joined: Sh2, Far. -/
import Derived.Test.YtncebbpnmpgjiaaShort
section
namespace Go.Proofs.Ytncebbpnmpgjiaa.Short
open Go.RowKit Go.Proofs.YtncebbpnmpgjiaaW.PrintWords Go.Proofs.YtncebbpnmpgjiaaW.PrintLast
set_option linter.unusedVariables false
section
variable {w W W0 w1 : World} {g : Nat} {o : Obj}
theorem kC {α : Type} {d : Kd α} {A : Option Addr} {n : Nat} {xs : List α} (h : Aside0 (Kd.C d W0 A n xs)) (hb : Below W.heap.size W w1) (k : Kd.C d W A n xs := by repeat (first | (with_reducible exact Aside0.out (by with_reducible assumption)) | (with_reducible refine Kd.C_alloc ?_ _) | (with_reducible refine Kd.C_drewN ?_ _) | (with_reducible refine Kd.C_drew ?_))) : Aside0 (Kd.C d w1 A n xs) := ⟨Kd.C_below k hb⟩
theorem odt {p : Prop} [Decidable p] (h : decide p = true := by first | (with_reducible assumption) | assumption) : p := of_decide_eq_true h
theorem fR {α : Type} {d : Kd α} {e b b0 : Nat} {ok ok0 : Nat → Prop} {v v0 : Value} {xs xs0 : List α} (h : Aside0 (Kd.R d e W0 b0 ok0 v0 xs0)) (k : Kd.R d e W b ok v xs := by (with_reducible repeat (first | apply Kd.R_alloc | apply Kd.R_drewN | apply Kd.R_drew)); first | exact Aside0.out (by with_reducible assumption) | exact Aside0.out (by assumption)) : Kd.R d e W b ok v xs := k
theorem fV {α : Type} {d : Kd α} {e b b0 : Nat} {ok ok0 : Nat → Prop} {v v0 : Value} {xs xs0 : List α} (h : Aside0 (Kd.V d e W0 b0 ok0 v0 xs0)) (k : Kd.V d e W b ok v xs := by (with_reducible repeat (first | apply Kd.V_alloc | apply Kd.V_drewN | apply Kd.V_drew)); first | exact Aside0.out (by with_reducible assumption) | exact Aside0.out (by assumption)) : Kd.V d e W b ok v xs := k
theorem fS {α : Type} {d : Kd α} {e b b0 : Nat} {ok ok0 : Nat → Prop} {v v0 : Value} {xs xs0 : List α} (h : Aside0 (Kd.S d e W0 b0 ok0 v0 xs0)) (k : Kd.S d e W b ok v xs := by (with_reducible repeat (first | apply Kd.S_alloc | apply Kd.S_drewN | apply Kd.S_drew)); first | exact Aside0.out (by with_reducible assumption) | exact Aside0.out (by assumption)) : Kd.S d e W b ok v xs := k
theorem gR {α : Type} {d : Kd α} {e b : Nat} {ok : Nat → Prop} {v : Value} {xs : List α} (h : Aside0 (Kd.R d e W0 b ok v xs)) (k : Kd.R d e W b ok v xs := by (with_reducible repeat (first | apply Kd.R_alloc | apply Kd.R_drewN | apply Kd.R_drew)); first | exact Aside0.out (by with_reducible assumption) | exact Aside0.out (by assumption)) : Kd.R d e W b ok v xs := k
theorem gV {α : Type} {d : Kd α} {e b : Nat} {ok : Nat → Prop} {v : Value} {xs : List α} (h : Aside0 (Kd.V d e W0 b ok v xs)) (k : Kd.V d e W b ok v xs := by (with_reducible repeat (first | apply Kd.V_alloc | apply Kd.V_drewN | apply Kd.V_drew)); first | exact Aside0.out (by with_reducible assumption) | exact Aside0.out (by assumption)) : Kd.V d e W b ok v xs := k
theorem gS {α : Type} {d : Kd α} {e b : Nat} {ok : Nat → Prop} {v : Value} {xs : List α} (h : Aside0 (Kd.S d e W0 b ok v xs)) (k : Kd.S d e W b ok v xs := by (with_reducible repeat (first | apply Kd.S_alloc | apply Kd.S_drewN | apply Kd.S_drew)); first | exact Aside0.out (by with_reducible assumption) | exact Aside0.out (by assumption)) : Kd.S d e W b ok v xs := k
theorem A_ {p : Prop} (h : p) : Aside0 p := ⟨h⟩
theorem eqd {α : Type} {a b : α} (h : a = b := by first | rfl | (simp [errW_none, errW_some] <;> rfl) | (simp [*, errW_none, errW_some] <;> rfl)) : a = b := h
theorem eqs {α : Type} {a b : α} (h : a = b := by first | rfl | (simp; done) | (simp [*]; done)) : a = b := h
end
end Go.Proofs.Ytncebbpnmpgjiaa.Short
end
section
namespace Go.Proofs.Ytncebbpnmpgjiaa.Short
open Go.RowKit Go.Proofs.YtncebbpnmpgjiaaW.PrintWords Go.Proofs.YtncebbpnmpgjiaaW.PrintLast
set_option linter.unusedVariables false
section
variable {w W W0 w1 : World} {g : Nat} {α : Type} {d : Kd α} {A : Option Addr} {n : Nat} {xs : List α}
def FarC (d : Kd α) (w : World) (g : Nat) (A : Option Addr) (n : Nat) (xs : List α) : Prop := ∃ w0 : World, w0.heap.size ≤ g ∧ Kd.C d w0 A n xs ∧ Below w0.heap.size w0 w
theorem FarC.set {i : Nat} {u : Value} (h : FarC d w g A n xs) : FarC d (w.setCell ⟨g, i, none⟩ u) g A n xs := by
  obtain ⟨w0, h1, h2, h3⟩ := h
  exact ⟨w0, h1, h2, below_set h3 h1⟩
theorem FarC.alloc {o : Obj} (h : FarC d w g A n xs) : FarC d (w.alloc o) g A n xs := by
  obtain ⟨w0, h1, h2, h3⟩ := h
  exact ⟨w0, h1, h2, by first | exact below_alloc h3 | (apply below_alloc; exact h3)⟩
theorem FarC.drewN {m : Nat} (h : FarC d w g A n xs) : FarC d (w.drewN m) g A n xs := by
  obtain ⟨w0, h1, h2, h3⟩ := h
  exact ⟨w0, h1, h2, by first | exact pw_below_drewN h3 _ | (apply pw_below_drewN; exact h3)⟩
theorem FarC.drew (h : FarC d w g A n xs) : FarC d w.drew g A n xs := by
  obtain ⟨w0, h1, h2, h3⟩ := h
  exact ⟨w0, h1, h2, by first | exact below_drew1 h3 | (apply below_drew1; exact h3)⟩
theorem fcN (h : Aside0 (Kd.C d W0 A n xs)) (hg : g = W.heap.size) (hb : Below W.heap.size W w1) (k : Kd.C d W A n xs := by repeat (first | (with_reducible exact Aside0.out (by with_reducible assumption)) | (with_reducible refine Kd.C_alloc ?_ _) | (with_reducible refine Kd.C_drewN ?_ _) | (with_reducible refine Kd.C_drew ?_))) : Aside0 (FarC d w1 g A n xs) := ⟨W, by rw [hg]; exact Nat.le_refl _, k, hb⟩
theorem fcC (h : Aside0 (FarC d w g A n xs)) (k : FarC d W g A n xs := by (with_reducible repeat (first | apply FarC.set | apply FarC.alloc | apply FarC.drewN | apply FarC.drew)); exact Aside0.out (by with_reducible assumption)) : Kd.C d W A n xs := by
  obtain ⟨w0, h1, h2, h3⟩ := k
  exact Kd.C_below h2 h3
end
end Go.Proofs.Ytncebbpnmpgjiaa.Short
end
