-- Written by wip/xprint.py of this work: the printer of the kit, with contracts of this work beside it, shortened.
import Derived.Test.YtmnpgcmpaiejaaaDoorShort
import Derived.Test.YtmnpgcmpaiejaaaDoorPTokx0
namespace Go.Proofs.YtmnpgcmpaiejaaaDoor.PTok
open Go.RowKit Go.Proofs.YtmnpgcmpaiejaaaDoor.Short Go.Proofs.YtmnpgcmpaiejaaaDoorW.PrintWords Go.Proofs.YtmnpgcmpaiejaaaDoorW.PrintLast Go.Proofs.YtmnpgcmpaiejaaaDoorW.PrintMore
attribute [local go_sem] max2_int min2_int max_two min_two max_three min_three max_four min_four   -- for this text's walks alone
set_option linter.unusedVariables false
set_option linter.unusedSimpArgs false

/-! ### strconv_Atoi: function 14 -/
def strconv_Atoi.f (a0 : ByteArray) : Option (Int × Option Int) := if a0.size ≤ 9223372036854775806 then (match Go.Lib.atoiAll a0.data.toList with | .ok v => some (v, none) | _ => none) else none
theorem strconv_Atoi.calls (a0 : ByteArray) (r1 : Int) (r2 : Option Int) (w : World) (h : strconv_Atoi.f a0 = some (r1, r2)) :
  Calls Tryd.prog 14 #[.string a0] w fun e w' => e = .returned (.tuple #[.int .i64 r1, errW r2]) ∧ Below w.heap.size w w' := by
 unfold strconv_Atoi.f at h
 split at h
 ·rename_i h1
  cases ha : Go.Lib.atoiAll a0.data.toList with
  | ok v =>
   rw [ha] at h
   simp only [Option.some.injEq, Prod.mk.injEq] at h
   obtain ⟨rfl, rfl⟩ := h
   exact (Tryd.strconv_Atoi_ok a0 h1 v ha w).mono fun e w' ⟨he, hw⟩ => ⟨by rw [he]; rfl, by rcases hw with rfl | ⟨t, rfl⟩ <;> first | exact Below.refl _ _ | exact Go.Proofs.YtmnpgcmpaiejaaaDoor.Libs.bytes_below _ _ _⟩
  | «syntax» => rw [ha] at h; cases h
  | range => rw [ha] at h; cases h
 ·cases h

end Go.Proofs.YtmnpgcmpaiejaaaDoor.PTok
