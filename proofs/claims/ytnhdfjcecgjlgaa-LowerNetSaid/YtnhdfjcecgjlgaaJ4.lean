/- Texts of this work, joined: PNtx4, SortS. -/
import Derived.Test.YtnhdfjcecgjlgaaShort
import Derived.Test.YtnhdfjcecgjlgaaSh2
import Derived.Test.YtnhdfjcecgjlgaaNet2
import Derived.Test.YtnhdfjcecgjlgaaPNtx0
import Derived.Test.YtnhdfjcecgjlgaaPNtx3
import Derived.Shelf.SlSortCmp.NoneTotal
import Derived.Test.YtnhdfjcecgjlgaaProg
section
namespace Go.Proofs.Ytnhdfjcecgjlgaa.PNt
open Go.RowKit Go.Proofs.Ytnhdfjcecgjlgaa.Short Go.Proofs.YtnhdfjcecgjlgaaW.PrintWords Go.Proofs.YtnhdfjcecgjlgaaW.PrintLast Go.Proofs.YtnhdfjcecgjlgaaW.PrintMore
attribute [local go_sem] max2_int min2_int max_two min_two max_three min_three max_four min_four
set_option linter.unusedVariables false
set_option linter.unusedSimpArgs false
def lower_Net.ok (l0_0 : List S59) (l0_1 : List S51) : Bool :=
 decide (l0_1.length ≤ 1000000000) && l0_1.all (fun r => decide (r.f0.size ≤ maxLen) && decide (r.f2.length ≤ 1000000000) && r.f2.all (fun l => decide (l.f0.size ≤ maxLen)) && r.f3.all (fun y => decide (y.f1.size ≤ maxLen))) && l0_0.all (fun m => decide (m.f1.length ≤ 2000000000000))
def lower_Net.f (l0_0 : List S59) (l0_1 : List S51) (a1_0 : Int) (a1_1 : Int) : Option (List Bool × List Int × List (List S55)) :=
 if lower_Net.ok l0_0 l0_1 = true then some ((l0_1.map toRt).map (Go.Proofs.Ytnhdfjcecgjlgaa.Low.orgB ⟨a1_0, a1_1⟩), (l0_1.map toRt).map (Go.Proofs.Ytnhdfjcecgjlgaa.Low.wayB ⟨a1_0, a1_1⟩ (l0_1.map toRt)), ((l0_1.map toRt).map (Go.Proofs.Ytnhdfjcecgjlgaa.Low.edgesB ⟨a1_0, a1_1⟩ (l0_0.map toMp) (l0_1.map toRt))).map (fun es => es.map frEd)) else none
theorem lower_Net.calls (A0_0 : Option Addr) (c0_0 : Nat) (l0_0 : List (S59)) (A0_1 : Option Addr) (c0_1 : Nat) (l0_1 : List (S51)) (a1_0 : Int) (a1_1 : Int) (r1 : List Bool) (r2 : List Int) (r3 : List (List S55)) (w : World) (hr0_0 : Kd.C k59 w A0_0 l0_0.length l0_0) (hc0_0 : l0_0.length ≤ c0_0) (hr0_1 : Kd.C k51 w A0_1 l0_1.length l0_1) (hc0_1 : l0_1.length ≤ c0_1) (h : lower_Net.f l0_0 l0_1 a1_0 a1_1 = some (r1, r2, r3)) :
  Calls Try.prog 8 #[.agg #[.slice A0_0 l0_0.length c0_0, .slice A0_1 l0_1.length c0_1], .agg #[.int .u32 a1_0, .int .i64 a1_1]] w fun e w' => ∃ v0_ v1_ v2_ : Value, e = .returned (.agg #[v0_, v1_, v2_]) ∧ Kd.V Kd.bool 4 w' w.heap.size (fun k_ => (w.heap.size ≤ k_)) v0_ r1 ∧ Kd.V (Kd.int .i64) 3 w' w.heap.size (fun k_ => (w.heap.size ≤ k_)) v1_ r2 ∧ Kd.V (Kd.slice 55 k55) 52 w' w.heap.size (fun k_ => (w.heap.size ≤ k_)) v2_ r3 ∧ Below w.heap.size w w' := by
 unfold lower_Net.f at h; split at h
 ·rename_i hok
  have h := Option.some.inj h; simp only [Prod.mk.injEq] at h; obtain ⟨rfl, rfl, rfl⟩ := h; unfold lower_Net.ok at hok; simp only [Bool.and_eq_true, decide_eq_true_eq, List.all_eq_true] at hok; obtain ⟨⟨hl, hR⟩, hM⟩ := hok; have hsz : ∀ x : ByteArray, x.data.toList.length = x.size := fun x => Array.length_toList
  have hc := Go.Proofs.Ytnhdfjcecgjlgaa.Low.net_calls (c0 := c0_0) (c1 := c0_1) (rows_mp hr0_0) (rows_rt hr0_1) a1_0 a1_1
   (fun r hr => by
    obtain ⟨x, hx, rfl⟩ := List.mem_map.1 hr; show x.f0.data.toList.length ≤ maxLen
    rw [hsz]; exact (hR x hx).1.1.1)
   (by rw [List.length_map]; exact hl)
   (fun r hr y hy => by
    obtain ⟨x, hx, rfl⟩ := List.mem_map.1 hr; obtain ⟨z, hz, rfl⟩ := List.mem_map.1 hy; show z.f1.data.toList.length ≤ maxLen
    rw [hsz]; exact (hR x hx).2 z hz)
   (fun r hr y hy => by
    obtain ⟨x, hx, rfl⟩ := List.mem_map.1 hr; obtain ⟨z, hz, rfl⟩ := List.mem_map.1 hy; show z.f0.data.toList.length ≤ maxLen
    rw [hsz]; exact (hR x hx).1.2 z hz)
   (fun m hm => by
    obtain ⟨x, hx, rfl⟩ := List.mem_map.1 hm; show (x.f1.map toCl).length ≤ 2000000000000
    rw [List.length_map]; exact hM x hx)
   (fun r hr => by
    obtain ⟨x, hx, rfl⟩ := List.mem_map.1 hr; show (x.f2.map toLk).length ≤ 1000000000
    rw [List.length_map]; exact (hR x hx).1.1.2)
  rw [List.length_map, List.length_map] at hc; refine hc.mono ?_; rintro e w' ⟨v0, v1, v2, rfl, H⟩; have hV0 := Go.Proofs.Ytnhdfjcecgjlgaa.Bridge.V_of_own (d := Kd.bool) (fun x : Bool => x) 4 w.heap.size rfl (show 0 < 1 by decide) (fun w S y cs hk => hk) H; have hV1 := Go.Proofs.Ytnhdfjcecgjlgaa.Bridge.V_of_own (d := Kd.int .i64) (fun x : Int => x) 3 w.heap.size rfl (show 0 < 1 by decide) (fun w S y cs hk => hk) H.pull1; have hV2 := Go.Proofs.Ytnhdfjcecgjlgaa.Bridge.V_of_own (d := Kd.slice 55 k55) (fun es : List Go.Proofs.Ytnhdfjcecgjlgaa.Mq.Ed => es.map frEd) 52 w.heap.size rfl (show 0 < 1 by decide) (fun w S y cs hk => Go.Proofs.Ytnhdfjcecgjlgaa.Bridge.K_slice_back (d := k55) (r := Go.Proofs.Ytnhdfjcecgjlgaa.Mq.edR) frEd rfl (fun y cs hk => K_frEd y cs hk) y cs hk) H.pull2; rw [List.map_id'] at hV0 hV1; exact ⟨v0, v1, v2, rfl, hV0, hV1, hV2, H.below⟩
 ·cases h
end Go.Proofs.Ytnhdfjcecgjlgaa.PNt
end
section
namespace Go.Proofs
open Go.Shelf
def Try.sortPfx_ren : Go.Shelf.Ren := ⟨fun | 6 => 16 | 15 => 29 | 14 => 28 | 28 => 41 | 29 => 42 | 20 => 33 | 21 => 34 | 22 => 35 | 23 => 36 | 24 => 37 | 25 => 38 | 26 => 39 | 27 => 40 | 46 => 43 | 47 => 44 | 48 => 45 | 49 => 46 | 50 => 47 | 57 => 48 | n => n, fun | 22 => 32 | 24 => 36 | 25 => 67 | 3 => 3 | 39 => 68 | 0 => 0 | 53 => 34 | 55 => 98 | 4 => 4 | 46 => 91 | 45 => 90 | 50 => 72 | 5 => 5 | 9 => 9 | 66 => 99 | 70 => 103 | 76 => 105 | 77 => 106 | n => n, fun | n => n⟩
theorem Try.sortPfx : Go.Proofs.SlLaysF0.n6 Try.prog Try.sortPfx_ren := {
  mixed := by kernel_rfl
  f6 := ⟨Try.f16.name, by decide, Try.func16.trans (congrArg some (by kernel_rfl))⟩
  f14 := ⟨Try.f28.name, by decide, Try.func28.trans (congrArg some (by kernel_rfl))⟩
  f15 := Try.func29.trans (congrArg some (by kernel_rfl))
  f20 := ⟨Try.f33.name, by decide, Try.func33.trans (congrArg some (by kernel_rfl))⟩
  f21 := ⟨Try.f34.name, by decide, Try.func34.trans (congrArg some (by kernel_rfl))⟩
  f22 := ⟨Try.f35.name, by decide, Try.func35.trans (congrArg some (by kernel_rfl))⟩
  f23 := ⟨Try.f36.name, by decide, Try.func36.trans (congrArg some (by kernel_rfl))⟩
  f24 := ⟨Try.f37.name, by decide, Try.func37.trans (congrArg some (by kernel_rfl))⟩
  f25 := ⟨Try.f38.name, by decide, Try.func38.trans (congrArg some (by kernel_rfl))⟩
  f26 := ⟨Try.f39.name, by decide, Try.func39.trans (congrArg some (by kernel_rfl))⟩
  f27 := ⟨Try.f40.name, by decide, Try.func40.trans (congrArg some (by kernel_rfl))⟩
  f28 := Try.func41.trans (congrArg some (by kernel_rfl))
  f29 := Try.func42.trans (congrArg some (by kernel_rfl))
  f46 := ⟨Try.f43.name, by decide, Try.func43.trans (congrArg some (by kernel_rfl))⟩
  f47 := Try.func44.trans (congrArg some (by kernel_rfl))
  f48 := Try.func45.trans (congrArg some (by kernel_rfl))
  f49 := ⟨Try.f46.name, by decide, Try.func46.trans (congrArg some (by kernel_rfl))⟩
  f50 := ⟨Try.f47.name, by decide, Try.func47.trans (congrArg some (by kernel_rfl))⟩
  f57 := ⟨Try.f48.name, by decide, Try.func48.trans (congrArg some (by kernel_rfl))⟩
  t0 := Try.underlying0
  a0 := Try.isAgg0
  z0 := Try.sizeOf0
  v0 := Try.zeroValue0
  t3 := Try.underlying3
  a3 := Try.isAgg3
  z3 := Try.sizeOf3
  v3 := Try.zeroValue3
  t4 := Try.underlying4
  a4 := Try.isAgg4
  z4 := Try.sizeOf4
  v4 := Try.zeroValue4
  t5 := Try.underlying5
  a5 := Try.isAgg5
  z5 := Try.sizeOf5
  v5 := Try.zeroValue5
  t9 := Try.underlying9
  a9 := Try.isAgg9
  z9 := Try.sizeOf9
  v9 := Try.zeroValue9
  t22 := Try.underlying32
  a22 := Try.isAgg32
  z22 := Try.sizeOf32
  v22 := Try.zeroValue32
  t25 := Try.underlying67
  a25 := Try.isAgg67
  z25 := Try.sizeOf67
  v25 := Try.zeroValue67
  t39 := Try.underlying68
  a39 := Try.isAgg68
  z39 := Try.sizeOf68
  v39 := Try.zeroValue68
  t45 := Try.underlying90
  a45 := Try.isAgg90
  z45 := Try.sizeOf90
  v45 := Try.zeroValue90
  t46 := Try.underlying91
  a46 := Try.isAgg91
  z46 := Try.sizeOf91
  v46 := Try.zeroValue91
  t50 := Try.underlying72
  a50 := Try.isAgg72
  z50 := Try.sizeOf72
  v50 := Try.zeroValue72
  t53 := Try.underlying34
  a53 := Try.isAgg34
  z53 := Try.sizeOf34
  v53 := Try.zeroValue34
  t55 := Try.underlying98
  a55 := Try.isAgg98
  z55 := Try.sizeOf98
  v55 := Try.zeroValue98
  t66 := Try.underlying99
  a66 := Try.isAgg99
  z66 := Try.sizeOf99
  v66 := Try.zeroValue99
  t70 := Try.underlying103
  a70 := Try.isAgg103
  z70 := Try.sizeOf103
  v70 := Try.zeroValue103
  t76 := Try.underlying105
  a76 := Try.isAgg105
  z76 := Try.sizeOf105
  v76 := Try.zeroValue105
  t77 := Try.underlying106
  a77 := Try.isAgg106
  z77 := Try.sizeOf106
  v77 := Try.zeroValue106 }
end Go.Proofs
end
