-- Written by wip/xprint.py of this work: the printer of the kit, with contracts of this work beside it, shortened.
import Derived.Test.YtncebbpnmpgjiaaShort
import Derived.Test.YtncebbpnmpgjiaaPMmx0
import Derived.Test.YtncebbpnmpgjiaaPMmx1
namespace Go.Proofs.Ytncebbpnmpgjiaa.PMm
open Go.RowKit Go.Proofs.Ytncebbpnmpgjiaa.Short Go.Proofs.YtncebbpnmpgjiaaW.PrintWords Go.Proofs.YtncebbpnmpgjiaaW.PrintLast Go.Proofs.YtncebbpnmpgjiaaW.PrintMore
attribute [local go_sem] max2_int min2_int max_two min_two max_three min_three max_four min_four   -- for this text's walks alone
set_option linter.unusedVariables false
set_option linter.unusedSimpArgs false

/-! ### lower_Net: function 7 -/
def lower_Net.ok (l0_0 : List S57) (l0_1 : List S53) : Bool :=
 decide (l0_1.length ≤ 1000000000) && l0_1.all (fun r => decide (r.f0.size ≤ maxLen) && decide (r.f2.length ≤ 1000000000) && r.f2.all (fun l => decide (l.f0.size ≤ maxLen)) && r.f3.all (fun y => decide (y.f1.size ≤ maxLen))) && l0_0.all (fun m => decide (m.f1.length ≤ 2000000000000))
def lower_Net.f (l0_0 : List S57) (l0_1 : List S53) (a1_0 : Int) (a1_1 : Int) : Option (List Bool × List Int × List (List S46)) :=
 if lower_Net.ok l0_0 l0_1 = true then some ((l0_1.map toRt).map (Go.Proofs.Ytncebbpnmpgjiaa.Low.orgB ⟨a1_0, a1_1⟩), (l0_1.map toRt).map (Go.Proofs.Ytncebbpnmpgjiaa.Low.wayB ⟨a1_0, a1_1⟩ (l0_1.map toRt)), ((l0_1.map toRt).map (Go.Proofs.Ytncebbpnmpgjiaa.Low.edgesB ⟨a1_0, a1_1⟩ (l0_0.map toMp) (l0_1.map toRt))).map (fun es => es.map frEd)) else none
theorem lower_Net.calls (A0_0 : Option Addr) (c0_0 : Nat) (l0_0 : List (S57)) (A0_1 : Option Addr) (c0_1 : Nat) (l0_1 : List (S53)) (a1_0 : Int) (a1_1 : Int) (r1 : List Bool) (r2 : List Int) (r3 : List (List S46)) (w : World) (hr0_0 : Kd.C k57 w A0_0 l0_0.length l0_0) (hc0_0 : l0_0.length ≤ c0_0) (hr0_1 : Kd.C k53 w A0_1 l0_1.length l0_1) (hc0_1 : l0_1.length ≤ c0_1) (h : lower_Net.f l0_0 l0_1 a1_0 a1_1 = some (r1, r2, r3)) :
  Calls Try.prog 7 #[.agg #[.slice A0_0 l0_0.length c0_0, .slice A0_1 l0_1.length c0_1], .agg #[.int .u32 a1_0, .int .i64 a1_1]] w fun e w' => ∃ v0_ v1_ v2_ : Value, e = .returned (.agg #[v0_, v1_, v2_]) ∧ Kd.V Kd.bool 4 w' w.heap.size (fun k_ => (w.heap.size ≤ k_)) v0_ r1 ∧ Kd.V (Kd.int .i64) 3 w' w.heap.size (fun k_ => (w.heap.size ≤ k_)) v1_ r2 ∧ Kd.V (Kd.slice 46 k46) 43 w' w.heap.size (fun k_ => (w.heap.size ≤ k_)) v2_ r3 ∧ Below w.heap.size w w' := by
 unfold lower_Net.f at h
 split at h
 ·rename_i hok
  have h := Option.some.inj h
  simp only [Prod.mk.injEq] at h
  obtain ⟨rfl, rfl, rfl⟩ := h
  unfold lower_Net.ok at hok
  simp only [Bool.and_eq_true, decide_eq_true_eq, List.all_eq_true] at hok
  obtain ⟨⟨hl, hR⟩, hM⟩ := hok
  have hsz : ∀ x : ByteArray, x.data.toList.length = x.size := fun x => Array.length_toList
  have hc := Go.Proofs.Ytncebbpnmpgjiaa.Low.net_calls (c0 := c0_0) (c1 := c0_1) (rows_mp hr0_0) (rows_rt hr0_1) a1_0 a1_1
   (fun r hr => by
    obtain ⟨x, hx, rfl⟩ := List.mem_map.1 hr
    show x.f0.data.toList.length ≤ maxLen
    rw [hsz]; exact (hR x hx).1.1.1)
   (by rw [List.length_map]; exact hl)
   (fun r hr y hy => by
    obtain ⟨x, hx, rfl⟩ := List.mem_map.1 hr
    obtain ⟨z, hz, rfl⟩ := List.mem_map.1 hy
    show z.f1.data.toList.length ≤ maxLen
    rw [hsz]; exact (hR x hx).2 z hz)
   (fun r hr y hy => by
    obtain ⟨x, hx, rfl⟩ := List.mem_map.1 hr
    obtain ⟨z, hz, rfl⟩ := List.mem_map.1 hy
    show z.f0.data.toList.length ≤ maxLen
    rw [hsz]; exact (hR x hx).1.2 z hz)
   (fun m hm => by
    obtain ⟨x, hx, rfl⟩ := List.mem_map.1 hm
    show (x.f1.map toCl).length ≤ 2000000000000
    rw [List.length_map]; exact hM x hx)
   (fun r hr => by
    obtain ⟨x, hx, rfl⟩ := List.mem_map.1 hr
    show (x.f2.map toLk).length ≤ 1000000000
    rw [List.length_map]; exact (hR x hx).1.1.2)
  rw [List.length_map, List.length_map] at hc
  refine hc.mono ?_
  rintro e w' ⟨v0, v1, v2, rfl, H⟩
  have hV0 := Go.Proofs.Ytncebbpnmpgjiaa.Bridge.V_of_own (d := Kd.bool) (fun x : Bool => x) 4 w.heap.size rfl (show 0 < 1 by decide) (fun w S y cs hk => hk) H
  have hV1 := Go.Proofs.Ytncebbpnmpgjiaa.Bridge.V_of_own (d := Kd.int .i64) (fun x : Int => x) 3 w.heap.size rfl (show 0 < 1 by decide) (fun w S y cs hk => hk) H.pull1
  have hV2 := Go.Proofs.Ytncebbpnmpgjiaa.Bridge.V_of_own (d := Kd.slice 46 k46) (fun es : List Go.Proofs.Ytncebbpnmpgjiaa.Mq.Ed => es.map frEd) 43 w.heap.size rfl (show 0 < 1 by decide) (fun w S y cs hk => Go.Proofs.Ytncebbpnmpgjiaa.Bridge.K_slice_back (d := k46) (r := Go.Proofs.Ytncebbpnmpgjiaa.Mq.edR) frEd rfl (fun y cs hk => K_frEd y cs hk) y cs hk) H.pull2
  rw [List.map_id'] at hV0 hV1
  exact ⟨v0, v1, v2, rfl, hV0, hV1, hV2, H.below⟩
 ·cases h

end Go.Proofs.Ytncebbpnmpgjiaa.PMm
