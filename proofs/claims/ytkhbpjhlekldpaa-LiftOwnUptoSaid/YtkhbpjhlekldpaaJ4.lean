/- Texts of this work, joined: PLiftx13, PLiftx14, PLiftx15. -/
import Derived.Test.YtkhbpjhlekldpaaShort
import Derived.Test.YtkhbpjhlekldpaaPLiftx0
section
namespace Go.Proofs.Ytkhbpjhlekldpaa.PLift
open Go.RowKit Go.Proofs.Ytkhbpjhlekldpaa.Short Go.Proofs.YtkhbpjhlekldpaaW.PrintWords Go.Proofs.YtkhbpjhlekldpaaW.PrintLast Go.Proofs.YtkhbpjhlekldpaaW.PrintMore
attribute [local go_sem] max2_int min2_int max_two min_two max_three min_three max_four min_four   -- for this text's walks alone
set_option linter.unusedVariables false
set_option linter.unusedSimpArgs false

/-! ### forward_Reach: function 18 -/
def forward_Reach.f (l0 : List (List Int)) (l1 : List Bool) : Option (List Bool) := if l0.length ≤ 1000000000 then some (Go.Proofs.Ytkhbpjhlekldpaa.FwP.reachB l0 l1) else none
theorem forward_Reach.calls (A0 : Option Addr) (c0 : Nat) (l0 : List (List Int)) (A1 : Option Addr) (c1 : Nat) (l1 : List Bool) (r : List Bool) (w : World) (hr0 : Kd.C (Kd.slice 3 (Kd.int .i64)) w A0 l0.length l0) (hc0 : l0.length ≤ c0) (hr1 : Kd.C Kd.bool w A1 l1.length l1) (hc1 : l1.length ≤ c1) (h : forward_Reach.f l0 l1 = some r) :
  Calls Try.prog 18 #[.slice A0 l0.length c0, .slice A1 l1.length c1] w fun e w' => ∃ v0_ : Value, e = .returned (v0_) ∧ Kd.R Kd.bool 4 w' w.heap.size (fun _ => True) v0_ r ∧ Below w.heap.size w w' := by
 unfold forward_Reach.f at h
 split at h
 ·rename_i hl
  have h := Option.some.inj h
  refine (Go.Proofs.Ytkhbpjhlekldpaa.Fw.reach_calls (Go.Proofs.Ytkhbpjhlekldpaa.Bridge.rows_int hr0) (Go.Proofs.Ytkhbpjhlekldpaa.Bridge.row_bool hr1) (by omega)).mono ?_
  rintro e w' ⟨v, rfl, H⟩
  have hR := Go.Proofs.Ytkhbpjhlekldpaa.Bridge.R_of_own (d := Kd.bool) (fun x : Bool => x) rfl (fun w S y cs hk W b ok => hk) H
  rw [h, List.map_id'] at hR
  exact ⟨v, rfl, hR, H.below⟩
 ·cases h

end Go.Proofs.Ytkhbpjhlekldpaa.PLift
end
section
namespace Go.Proofs.Ytkhbpjhlekldpaa.PLift
open Go.RowKit Go.Proofs.Ytkhbpjhlekldpaa.Short Go.Proofs.YtkhbpjhlekldpaaW.PrintWords Go.Proofs.YtkhbpjhlekldpaaW.PrintLast Go.Proofs.YtkhbpjhlekldpaaW.PrintMore
attribute [local go_sem] max2_int min2_int max_two min_two max_three min_three max_four min_four   -- for this text's walks alone
set_option linter.unusedVariables false
set_option linter.unusedSimpArgs false

/-! ### forward_Loops: function 19 -/
def forward_Loops.f (l0 : List (List Int)) : Option (List Bool) := if l0.length ≤ 1000000000 then some (Go.Proofs.Ytkhbpjhlekldpaa.FwP.loopsB l0) else none
theorem forward_Loops.calls (A0 : Option Addr) (c0 : Nat) (l0 : List (List Int)) (r : List Bool) (w : World) (hr0 : Kd.C (Kd.slice 3 (Kd.int .i64)) w A0 l0.length l0) (hc0 : l0.length ≤ c0) (h : forward_Loops.f l0 = some r) :
  Calls Try.prog 19 #[.slice A0 l0.length c0] w fun e w' => ∃ v0_ : Value, e = .returned (v0_) ∧ Kd.R Kd.bool 4 w' w.heap.size (fun _ => True) v0_ r ∧ Below w.heap.size w w' := by
 unfold forward_Loops.f at h
 split at h
 ·rename_i hl
  have h := Option.some.inj h
  refine (Go.Proofs.Ytkhbpjhlekldpaa.Fw.loops_calls (Go.Proofs.Ytkhbpjhlekldpaa.Bridge.rows_int hr0) (by omega)).mono ?_
  rintro e w' ⟨v, rfl, H⟩
  have hR := Go.Proofs.Ytkhbpjhlekldpaa.Bridge.R_of_own (d := Kd.bool) (fun x : Bool => x) rfl (fun w S y cs hk W b ok => hk) H
  rw [h, List.map_id'] at hR
  exact ⟨v, rfl, hR, H.below⟩
 ·cases h

end Go.Proofs.Ytkhbpjhlekldpaa.PLift
end
section
namespace Go.Proofs.Ytkhbpjhlekldpaa.PLift
open Go.RowKit Go.Proofs.Ytkhbpjhlekldpaa.Short Go.Proofs.YtkhbpjhlekldpaaW.PrintWords Go.Proofs.YtkhbpjhlekldpaaW.PrintLast Go.Proofs.YtkhbpjhlekldpaaW.PrintMore
attribute [local go_sem] max2_int min2_int max_two min_two max_three min_three max_four min_four   -- for this text's walks alone
set_option linter.unusedVariables false
set_option linter.unusedSimpArgs false

/-! ### forward_Hops: function 24 -/
def forward_Hops.f (l0 : List (List Int)) (l1 : List Bool) (a2 : Int) : Option (List (List Int)) := if l0.length ≤ 1000000000 then some (Go.Proofs.Ytkhbpjhlekldpaa.FwP.hopsB l0 l1 a2) else none
theorem forward_Hops.calls (A0 : Option Addr) (c0 : Nat) (l0 : List (List Int)) (A1 : Option Addr) (c1 : Nat) (l1 : List Bool) (a2 : Int) (r : List (List Int)) (w : World) (hr0 : Kd.C (Kd.slice 3 (Kd.int .i64)) w A0 l0.length l0) (hc0 : l0.length ≤ c0) (hr1 : Kd.C Kd.bool w A1 l1.length l1) (hc1 : l1.length ≤ c1) (h : forward_Hops.f l0 l1 a2 = some r) :
  Calls Try.prog 24 #[.slice A0 l0.length c0, .slice A1 l1.length c1, .int .i64 a2] w fun e w' => ∃ v0_ : Value, e = .returned (v0_) ∧ Kd.V (Kd.slice 3 (Kd.int .i64)) 29 w' w.heap.size (fun k_ => (w.heap.size ≤ k_)) v0_ r ∧ Below w.heap.size w w' := by
 unfold forward_Hops.f at h
 split at h
 ·rename_i hl
  have h := Option.some.inj h
  refine (Go.Proofs.Ytkhbpjhlekldpaa.Fw.hops_calls (Go.Proofs.Ytkhbpjhlekldpaa.Bridge.rows_int hr0) (Go.Proofs.Ytkhbpjhlekldpaa.Bridge.row_bool hr1) hl).mono ?_
  rintro e w' ⟨v, rfl, H⟩
  have hV := Go.Proofs.Ytkhbpjhlekldpaa.Bridge.V_of_own (d := Kd.slice 3 (Kd.int .i64)) (fun x : List Int => x) 29 w.heap.size rfl (show 0 < 1 by decide) (fun w S y cs hk => by simpa using Go.Proofs.Ytkhbpjhlekldpaa.Bridge.K_slice_back (d := Kd.int .i64) (r := Go.Proofs.Ytkhbpjhlekldpaa.Mq.int .i64) (fun x : Int => x) rfl (fun y cs hk => hk) y cs hk) H
  rw [h, List.map_id'] at hV
  exact ⟨v, rfl, hV, H.below⟩
 ·cases h

end Go.Proofs.Ytkhbpjhlekldpaa.PLift
end
