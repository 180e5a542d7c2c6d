/- Texts of this work, joined: PMmx11, PMmx12. -/
import Derived.Test.YtncebbpnmpgjiaaPMmx0
import Derived.Test.YtncebbpnmpgjiaaShort
import Derived.Test.YtncebbpnmpgjiaaPMmx1
section
namespace Go.Proofs.Ytncebbpnmpgjiaa.PMm
open Go.RowKit Go.Proofs.YtncebbpnmpgjiaaW.PrintWords Go.Proofs.YtncebbpnmpgjiaaW.PrintLast Go.Proofs.YtncebbpnmpgjiaaW.PrintMore
attribute [local go_sem] max2_int min2_int max_two min_two max_three min_three max_four min_four   -- for this text's walks alone
set_option linter.unusedVariables false
set_option linter.unusedSimpArgs false
def frPf (y : Go.Proofs.Ytncebbpnmpgjiaa.Mq.Pf) : S36 := ⟨y.addr, y.bits⟩
theorem M_frPf {w : World} {S : Nat → Prop} (y : Go.Proofs.Ytncebbpnmpgjiaa.Mq.Pf) (cs : List Value) (h : Go.Proofs.Ytncebbpnmpgjiaa.Mq.pfR.K w S y cs) (W : World) (b : Nat) (ok : Nat → Prop) : k36.M W b ok (frPf y) cs := by
  have h_ : cs = Go.Proofs.Ytncebbpnmpgjiaa.Mq.Pf.enc y := h
  subst h_
  exact k36_mkM W b ok (frPf y)

end Go.Proofs.Ytncebbpnmpgjiaa.PMm
end
section
namespace Go.Proofs.Ytncebbpnmpgjiaa.PMm
open Go.RowKit Go.Proofs.Ytncebbpnmpgjiaa.Short Go.Proofs.YtncebbpnmpgjiaaW.PrintWords Go.Proofs.YtncebbpnmpgjiaaW.PrintLast Go.Proofs.YtncebbpnmpgjiaaW.PrintMore
attribute [local go_sem] max2_int min2_int max_two min_two max_three min_three max_four min_four   -- for this text's walks alone
set_option linter.unusedVariables false
set_option linter.unusedSimpArgs false
/-! ### lower_Classes: function 6 -/
def lower_Classes.f (l0_0 : List S57) (l0_1 : List S53) : Option (List S36) :=
 if (l0_1.map fun r => r.f1.length).sum ≤ 8000000000000 then some ((Go.Proofs.Ytncebbpnmpgjiaa.Low.classesB (l0_1.map toRt)).map frPf) else none
theorem lower_Classes.calls (A0_0 : Option Addr) (c0_0 : Nat) (l0_0 : List (S57)) (A0_1 : Option Addr) (c0_1 : Nat) (l0_1 : List (S53)) (r : List (S36)) (w : World) (hr0_0 : Kd.C k57 w A0_0 l0_0.length l0_0) (hc0_0 : l0_0.length ≤ c0_0) (hr0_1 : Kd.C k53 w A0_1 l0_1.length l0_1) (hc0_1 : l0_1.length ≤ c0_1) (h : lower_Classes.f l0_0 l0_1 = some r) :
  Calls Try.prog 6 #[.agg #[.slice A0_0 l0_0.length c0_0, .slice A0_1 l0_1.length c0_1]] w fun e w' => ∃ v0_ : Value, e = .returned (v0_) ∧ Kd.R k36 36 w' w.heap.size (fun _ => True) v0_ r ∧ Below w.heap.size w w' := by
 unfold lower_Classes.f at h
 split at h
 ·rename_i hok
  obtain rfl := Option.some.inj h
  have ht : Go.Proofs.Ytncebbpnmpgjiaa.Low.tot (l0_1.map toRt) ≤ 8000000000000 := by
   have e : Go.Proofs.Ytncebbpnmpgjiaa.Low.tot (l0_1.map toRt) = (l0_1.map fun r => r.f1.length).sum := by
    unfold Go.Proofs.Ytncebbpnmpgjiaa.Low.tot
    rw [List.map_map]
    congr 1
    refine List.map_congr_left fun x _ => ?_
    show (x.f1.map toPf).length = x.f1.length
    rw [List.length_map]
   rw [e]; exact hok
  have hc := Go.Proofs.Ytncebbpnmpgjiaa.Low.classes_calls (c1 := c0_1) (.slice A0_0 l0_0.length c0_0) (rows_rt hr0_1) ht
  rw [List.length_map] at hc
  refine hc.mono ?_
  rintro e w' ⟨v, rfl, H⟩
  have hR := Go.Proofs.Ytncebbpnmpgjiaa.Bridge.R_of_own (d := k36) frPf rfl (fun w S y cs hk W b ok => M_frPf y cs hk W b ok) H
  exact ⟨v, rfl, hR, H.below⟩
 ·cases h

end Go.Proofs.Ytncebbpnmpgjiaa.PMm
end
