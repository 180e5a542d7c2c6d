-- Written by wip/xprint.py of this work: the printer of the kit, with contracts of this work beside it, shortened.
import Derived.Test.YtbclogifkifaaaaDoorShort
import Derived.Test.YtbclogifkifaaaaDoorPPrex0
namespace Go.Proofs.YtbclogifkifaaaaDoor.PPre
open Go.RowKit Go.Proofs.YtbclogifkifaaaaDoor.Short Go.Proofs.YtbclogifkifaaaaDoorW.PrintWords Go.Proofs.YtbclogifkifaaaaDoorW.PrintLast Go.Proofs.YtbclogifkifaaaaDoorW.PrintMore
attribute [local go_sem] max2_int min2_int max_two min_two max_three min_three max_four min_four   -- for this text's walks alone
set_option linter.unusedVariables false
set_option linter.unusedSimpArgs false

/-! ### strings_Join: function 17 -/
def strings_Join.f (l0 : List ByteArray) (a1 : ByteArray) : Option ByteArray := if l0.length ≤ 140737488355328 ∧ (Go.Lib.join (l0.map (·.data.toList)) a1.data.toList).length ≤ 140737488355328 then some ⟨(Go.Lib.join (l0.map (·.data.toList)) a1.data.toList).toArray⟩ else none
theorem strings_Join.calls (A0 : Option Addr) (c0 : Nat) (l0 : List ByteArray) (a1 : ByteArray) (r : ByteArray) (w : World) (hr0 : Kd.C Kd.string w A0 l0.length l0) (hc0 : l0.length ≤ c0) (h : strings_Join.f l0 a1 = some r) :
  Calls Tryd.prog 17 #[.slice A0 l0.length c0, .string a1] w fun e w' => e = .returned (.string r) ∧ Below w.heap.size w w' := by
 unfold strings_Join.f at h
 split at h
 ·rename_i h1
  obtain rfl := Option.some.inj h
  exact Go.Proofs.YtbclogifkifaaaaDoor.Libs.join_calls A0 c0 l0 a1 w hr0 hc0 h1.1 h1.2
 ·cases h

end Go.Proofs.YtbclogifkifaaaaDoor.PPre
