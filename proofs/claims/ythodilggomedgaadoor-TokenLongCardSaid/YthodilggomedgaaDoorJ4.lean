/- Texts of this work, joined: TokP, TokQ. -/
import Derived.Test.YthodilggomedgaaDoorJ2
import Derived.Test.YthodilggomedgaaDoorPTkx22
import Derived.Test.YthodilggomedgaaDoorPTkx12
section
namespace Go.Proofs.YthodilggomedgaaDoor.TokP
open Go.RowKit Go.Proofs.YthodilggomedgaaDoor.PTk Go.Proofs.YthodilggomedgaaDoorW.PrintWords Go.Proofs.YthodilggomedgaaDoorW.PrintLast Go.Proofs.YthodilggomedgaaDoorW.PrintMore Go.Proofs.YthodilggomedgaaDoor.Dec
set_option linter.unusedVariables false
set_option linter.unusedSimpArgs false
theorem leO_up {α : Type} {F : Nat → Option α} (h : ∀ k, LeO (F k) (F (k + 1))) {k k' : Nat} (hk : k ≤ k') {r : α} (e : F k = some r) : F k' = some r := by
  induction hk with
  | refl => exact e
  | step _ ih => exact h _ _ ih
theorem lsz (a : ByteArray) : a.data.toList.length = a.size := Array.length_toList
theorem w1 {i : Nat} (h : i < 9223372036854775807) : wrap64 ((i : Int) + 1) = ((i + 1 : Nat) : Int) := by unfold wrap64; omega
theorem bt_at {t : ByteArray} {i : Nat} {b : UInt8} (h : t.data.toList[i]? = some b) : bt t (i : Int) = (b.toNat : Int) := by
  have hlt : i < t.size := by
    have := (List.getElem?_eq_some_iff.1 h).1
    rwa [lsz] at this
  unfold bt
  rw [dif_pos (by simpa using hlt)]
  have e := (List.getElem?_eq_some_iff.1 h).2
  simp only [Int.toNat_natCast]
  rw [← e]
  rfl
end Go.Proofs.YthodilggomedgaaDoor.TokP
end
section
namespace Go.Proofs.YthodilggomedgaaDoor.TokP
open Go.RowKit Go.Proofs.YthodilggomedgaaDoor.PTk Go.Proofs.YthodilggomedgaaDoorW.PrintWords Go.Proofs.YthodilggomedgaaDoorW.PrintLast Go.Proofs.YthodilggomedgaaDoorW.PrintMore Go.Proofs.YthodilggomedgaaDoor.Dec
set_option linter.unusedVariables false
set_option linter.unusedSimpArgs false
end Go.Proofs.YthodilggomedgaaDoor.TokP
end
