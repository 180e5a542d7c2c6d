/- Texts of this work, joined: PLmx9, PLmx11, SortS, SortP. -/
import Derived.Test.YtcagkdgpoijkoaaPLmx0
import Derived.Test.YtcagkdgpoijkoaaShort
import Derived.Test.YtcagkdgpoijkoaaSh2
import Derived.Test.YtcagkdgpoijkoaaNet2
import Derived.Shelf.SlSortCmp.NoneTotal
import Derived.Test.YtcagkdgpoijkoaaProg
import Derived.Test.YtcagkdgpoijkoaaJ4
import Derived.Test.YtcagkdgpoijkoaaJ0
import Derived.Test.YtcagkdgpoijkoaaJ2
section
namespace Go.Proofs.Ytcagkdgpoijkoaa.PLm
open Go.RowKit Go.Proofs.YtcagkdgpoijkoaaW.PrintWords Go.Proofs.YtcagkdgpoijkoaaW.PrintLast Go.Proofs.YtcagkdgpoijkoaaW.PrintMore
attribute [local go_sem] max2_int min2_int max_two min_two max_three min_three max_four min_four
set_option linter.unusedVariables false
set_option linter.unusedSimpArgs false
def toCl (x : S116) : Go.Proofs.Ytcagkdgpoijkoaa.Mq.Cl := ⟨x.f0, ⟨x.f1.f0, x.f1.f1⟩, x.f2, x.f3, x.f4, x.f5, x.f6, x.f7, x.f8⟩
theorem K_toCl {w : World} {S : Nat → Prop} (x : S116) (cs : List Value) (h : k116.K w x cs) : Go.Proofs.Ytcagkdgpoijkoaa.Mq.clR.K w S (toCl x) cs := by have h_ := k116_open h; subst h_; rfl
def toEd (x : S51) : Go.Proofs.Ytcagkdgpoijkoaa.Mq.Ed := ⟨x.f0, x.f1, x.f2.map toCl, x.f3.map toCl⟩
theorem K_toEd {w : World} (x : S51) (cs : List Value) (h : k51.K w x cs) : Go.Proofs.Ytcagkdgpoijkoaa.Mq.edR.K w (· < w.heap.size) (toEd x) cs := by
  obtain ⟨A2, c2, A3, c3, rfl, l2, h2, l3, h3⟩ := k51_open h; exact ⟨_, _, rfl, rfl, _, _, rfl, rfl, _, _, rfl, ⟨A2, c2, by rw [show (toEd x).exp.length = x.f2.length from List.length_map _], by rw [show (toEd x).exp.length = x.f2.length from List.length_map _]; exact l2, Go.Proofs.Ytcagkdgpoijkoaa.Bridge.row_of_C toCl rfl (show 0 < 10 by decide) (fun x cs => K_toCl x cs) h2⟩, _, _, rfl, ⟨A3, c3, by rw [show (toEd x).imp.length = x.f3.length from List.length_map _], by rw [show (toEd x).imp.length = x.f3.length from List.length_map _]; exact l3, Go.Proofs.Ytcagkdgpoijkoaa.Bridge.row_of_C toCl rfl (show 0 < 10 by decide) (fun x cs => K_toCl x cs) h3⟩, rfl⟩
theorem rows_ed {w : World} {A : Option Addr} {e n : Nat} {g : List (List S51)} (h : Kd.C (Kd.slice e k51) w A n g) : Go.Proofs.Ytcagkdgpoijkoaa.Mq.Row (Go.Proofs.Ytcagkdgpoijkoaa.Mq.slice Go.Proofs.Ytcagkdgpoijkoaa.Mq.edR) w (· < w.heap.size) A (g.map (·.map toEd)) :=
  Go.Proofs.Ytcagkdgpoijkoaa.Bridge.row_of_C (r := Go.Proofs.Ytcagkdgpoijkoaa.Mq.slice Go.Proofs.Ytcagkdgpoijkoaa.Mq.edR) (fun x : List S51 => x.map toEd) rfl (show 0 < 1 by decide) (fun x cs hx => Go.Proofs.Ytcagkdgpoijkoaa.Bridge.K_slice (r := Go.Proofs.Ytcagkdgpoijkoaa.Mq.edR) toEd rfl (show 0 < 4 by decide) (fun x cs h => K_toEd x cs h) x cs hx) h
theorem bs_data (x : ByteArray) : Go.Proofs.Ytcagkdgpoijkoaa.Mq.bs x.data.toList = x := by cases x; rfl
def toPf (x : S35) : Go.Proofs.Ytcagkdgpoijkoaa.Mq.Pf := ⟨x.f0, x.f1⟩
theorem K_toPf {w : World} {S : Nat → Prop} (x : S35) (cs : List Value) (h : k35.K w x cs) : Go.Proofs.Ytcagkdgpoijkoaa.Mq.pfR.K w S (toPf x) cs := by have h_ := k35_open h; subst h_; rfl
def toLk (x : S95) : Go.Proofs.Ytcagkdgpoijkoaa.Mq.Lk := ⟨x.f0.data.toList, x.f1, x.f2.data.toList, x.f3.data.toList, x.f4⟩
theorem K_toLk {w : World} {S : Nat → Prop} (x : S95) (cs : List Value) (h : k95.K w x cs) : Go.Proofs.Ytcagkdgpoijkoaa.Mq.lkR.K w S (toLk x) cs := by
  have h_ := k95_open h; subst h_; show _ = Go.Proofs.Ytcagkdgpoijkoaa.Mq.Lk.enc (toLk x); simp only [Go.Proofs.Ytcagkdgpoijkoaa.Mq.Lk.enc, toLk, bs_data]
def toWy (x : S97) : Go.Proofs.Ytcagkdgpoijkoaa.Mq.Wy := ⟨⟨x.f0.f0, x.f0.f1⟩, x.f1.data.toList, x.f2⟩
theorem K_toWy {w : World} {S : Nat → Prop} (x : S97) (cs : List Value) (h : k97.K w x cs) : Go.Proofs.Ytcagkdgpoijkoaa.Mq.wyR.K w S (toWy x) cs := by
  have h_ := k97_open h; subst h_; show _ = Go.Proofs.Ytcagkdgpoijkoaa.Mq.Wy.enc (toWy x); simp only [Go.Proofs.Ytcagkdgpoijkoaa.Mq.Wy.enc, toWy, bs_data]
def toRt (x : S91) : Go.Proofs.Ytcagkdgpoijkoaa.Mq.Rt := ⟨x.f0.data.toList, x.f1.map toPf, x.f2.map toLk, x.f3.map toWy, x.f4⟩
theorem K_toRt {w : World} (x : S91) (cs : List Value) (h : k91.K w x cs) : Go.Proofs.Ytcagkdgpoijkoaa.Mq.rtR.K w (· < w.heap.size) (toRt x) cs := by
  obtain ⟨A1, c1, A2, c2, A3, c3, rfl, l1, h1, l2, h2, l3, h3⟩ := k91_open h; have e1 : (toRt x).nets.length = x.f1.length := List.length_map _; have e2 : (toRt x).links.length = x.f2.length := List.length_map _; have e3 : (toRt x).ways.length = x.f3.length := List.length_map _; (have eb : Value.string x.f0 = Value.string (Go.Proofs.Ytcagkdgpoijkoaa.Mq.bs (toRt x).name) := by rw [show (toRt x).name = x.f0.data.toList from rfl, bs_data]); exact ⟨_, _, rfl, eb, _, _, rfl, ⟨A1, c1, by rw [e1], by rw [e1]; exact l1, Go.Proofs.Ytcagkdgpoijkoaa.Bridge.row_of_C toPf rfl (show 0 < 2 by decide) (fun x cs => K_toPf x cs) h1⟩, _, _, rfl, ⟨A2, c2, by rw [e2], by rw [e2]; exact l2, Go.Proofs.Ytcagkdgpoijkoaa.Bridge.row_of_C toLk rfl (show 0 < 5 by decide) (fun x cs => K_toLk x cs) h2⟩, _, _, rfl, ⟨A3, c3, by rw [e3], by rw [e3]; exact l3, Go.Proofs.Ytcagkdgpoijkoaa.Bridge.row_of_C toWy rfl (show 0 < 4 by decide) (fun x cs => K_toWy x cs) h3⟩, _, _, rfl, rfl, rfl⟩
theorem rows_rt {w : World} {A : Option Addr} {n : Nat} {g : List S91} (h : Kd.C k91 w A n g) : Go.Proofs.Ytcagkdgpoijkoaa.Mq.Row Go.Proofs.Ytcagkdgpoijkoaa.Mq.rtR w (· < w.heap.size) A (g.map toRt) :=
  Go.Proofs.Ytcagkdgpoijkoaa.Bridge.row_of_C (r := Go.Proofs.Ytcagkdgpoijkoaa.Mq.rtR) toRt rfl (show 0 < 5 by decide) (fun x cs h => K_toRt x cs h) h
def toMp (x : S86) : Go.Proofs.Ytcagkdgpoijkoaa.Mq.Mp := ⟨x.f0.data.toList, x.f1.map toCl, x.f2⟩
theorem K_toMp {w : World} (x : S86) (cs : List Value) (h : k86.K w x cs) : Go.Proofs.Ytcagkdgpoijkoaa.Mq.mpR.K w (· < w.heap.size) (toMp x) cs := by
  obtain ⟨A1, c1, rfl, l1, h1⟩ := k86_open h; have e1 : (toMp x).clauses.length = x.f1.length := List.length_map _; (have eb : Value.string x.f0 = Value.string (Go.Proofs.Ytcagkdgpoijkoaa.Mq.bs (toMp x).name) := by rw [show (toMp x).name = x.f0.data.toList from rfl, bs_data]); exact ⟨_, _, rfl, eb, _, _, rfl, ⟨A1, c1, by rw [e1], by rw [e1]; exact l1, Go.Proofs.Ytcagkdgpoijkoaa.Bridge.row_of_C toCl rfl (show 0 < 10 by decide) (fun x cs => K_toCl x cs) h1⟩, _, _, rfl, rfl, rfl⟩
theorem rows_mp {w : World} {A : Option Addr} {n : Nat} {g : List S86} (h : Kd.C k86 w A n g) : Go.Proofs.Ytcagkdgpoijkoaa.Mq.Row Go.Proofs.Ytcagkdgpoijkoaa.Mq.mpR w (· < w.heap.size) A (g.map toMp) :=
  Go.Proofs.Ytcagkdgpoijkoaa.Bridge.row_of_C (r := Go.Proofs.Ytcagkdgpoijkoaa.Mq.mpR) toMp rfl (show 0 < 3 by decide) (fun x cs h => K_toMp x cs h) h
def frCl (y : Go.Proofs.Ytcagkdgpoijkoaa.Mq.Cl) : S116 := ⟨y.any, ⟨y.pre.addr, y.pre.bits⟩, y.wth, y.out, y.drop, y.set, y.clr, y.more, y.pref⟩
theorem K_frCl {w : World} {S : Nat → Prop} (y : Go.Proofs.Ytcagkdgpoijkoaa.Mq.Cl) (cs : List Value) (h : Go.Proofs.Ytcagkdgpoijkoaa.Mq.clR.K w S y cs) : k116.K w (frCl y) cs := by
  have h_ : cs = Go.Proofs.Ytcagkdgpoijkoaa.Mq.Cl.enc y := h; subst h_; exact k116_mk w (frCl y)
def frEd (y : Go.Proofs.Ytcagkdgpoijkoaa.Mq.Ed) : S51 := ⟨y.frm, y.cost, y.exp.map frCl, y.imp.map frCl⟩
theorem K_frEd {w : World} {S : Nat → Prop} (y : Go.Proofs.Ytcagkdgpoijkoaa.Mq.Ed) (cs : List Value) (h : Go.Proofs.Ytcagkdgpoijkoaa.Mq.edR.K w S y cs) : k51.K w (frEd y) cs := by
  obtain ⟨_, _, rfl, rfl, _, _, rfl, rfl, _, _, rfl, ⟨A2, c2, rfl, l2, h2⟩, _, _, rfl, ⟨A3, c3, rfl, l3, h3⟩, rfl⟩ := h; have e2 : (frEd y).f2.length = y.exp.length := List.length_map _; have e3 : (frEd y).f3.length = y.imp.length := List.length_map _; have k2 := Go.Proofs.Ytcagkdgpoijkoaa.Bridge.C_of_row (d := k116) (r := Go.Proofs.Ytcagkdgpoijkoaa.Mq.clR) frCl rfl (fun y cs hk => K_frCl y cs hk) h2; have k3 := Go.Proofs.Ytcagkdgpoijkoaa.Bridge.C_of_row (d := k116) (r := Go.Proofs.Ytcagkdgpoijkoaa.Mq.clR) frCl rfl (fun y cs hk => K_frCl y cs hk) h3; have := k51_mk w (frEd y) (A2 := A2) (c2 := c2) (by rw [e2]; exact l2) (by rw [e2]; exact k2) (A3 := A3) (c3 := c3) (by rw [e3]; exact l3) (by rw [e3]; exact k3); rw [e2, e3] at this; exact this
def frPf (y : Go.Proofs.Ytcagkdgpoijkoaa.Mq.Pf) : S35 := ⟨y.addr, y.bits⟩
theorem M_frPf {w : World} {S : Nat → Prop} (y : Go.Proofs.Ytcagkdgpoijkoaa.Mq.Pf) (cs : List Value) (h : Go.Proofs.Ytcagkdgpoijkoaa.Mq.pfR.K w S y cs) (W : World) (b : Nat) (ok : Nat → Prop) : k35.M W b ok (frPf y) cs := by
  have h_ : cs = Go.Proofs.Ytcagkdgpoijkoaa.Mq.Pf.enc y := h; subst h_; exact k35_mkM W b ok (frPf y)
end Go.Proofs.Ytcagkdgpoijkoaa.PLm
end
section
namespace Go.Proofs.Ytcagkdgpoijkoaa.PLm
open Go.RowKit Go.Proofs.Ytcagkdgpoijkoaa.Short Go.Proofs.YtcagkdgpoijkoaaW.PrintWords Go.Proofs.YtcagkdgpoijkoaaW.PrintLast Go.Proofs.YtcagkdgpoijkoaaW.PrintMore
attribute [local go_sem] max2_int min2_int max_two min_two max_three min_three max_four min_four
set_option linter.unusedVariables false
set_option linter.unusedSimpArgs false
def lower_Net.ok (l0_0 : List S86) (l0_1 : List S91) : Bool :=
 decide (l0_1.length ≤ 1000000000) && l0_1.all (fun r => decide (r.f0.size ≤ maxLen) && decide (r.f2.length ≤ 1000000000) && r.f2.all (fun l => decide (l.f0.size ≤ maxLen)) && r.f3.all (fun y => decide (y.f1.size ≤ maxLen))) && l0_0.all (fun m => decide (m.f1.length ≤ 2000000000000))
def lower_Net.f (l0_0 : List S86) (l0_1 : List S91) (a1_0 : Int) (a1_1 : Int) : Option (List Bool × List Int × List (List S51)) :=
 if lower_Net.ok l0_0 l0_1 = true then some ((l0_1.map toRt).map (Go.Proofs.Ytcagkdgpoijkoaa.Low.orgB ⟨a1_0, a1_1⟩), (l0_1.map toRt).map (Go.Proofs.Ytcagkdgpoijkoaa.Low.wayB ⟨a1_0, a1_1⟩ (l0_1.map toRt)), ((l0_1.map toRt).map (Go.Proofs.Ytcagkdgpoijkoaa.Low.edgesB ⟨a1_0, a1_1⟩ (l0_0.map toMp) (l0_1.map toRt))).map (fun es => es.map frEd)) else none
theorem lower_Net.calls (A0_0 : Option Addr) (c0_0 : Nat) (l0_0 : List (S86)) (A0_1 : Option Addr) (c0_1 : Nat) (l0_1 : List (S91)) (a1_0 : Int) (a1_1 : Int) (r1 : List Bool) (r2 : List Int) (r3 : List (List S51)) (w : World) (hr0_0 : Kd.C k86 w A0_0 l0_0.length l0_0) (hc0_0 : l0_0.length ≤ c0_0) (hr0_1 : Kd.C k91 w A0_1 l0_1.length l0_1) (hc0_1 : l0_1.length ≤ c0_1) (h : lower_Net.f l0_0 l0_1 a1_0 a1_1 = some (r1, r2, r3)) :
  Calls Try.prog 23 #[.agg #[.slice A0_0 l0_0.length c0_0, .slice A0_1 l0_1.length c0_1], .agg #[.int .u32 a1_0, .int .i64 a1_1]] w fun e w' => ∃ v0_ v1_ v2_ : Value, e = .returned (.agg #[v0_, v1_, v2_]) ∧ Kd.V Kd.bool 4 w' w.heap.size (fun k_ => (w.heap.size ≤ k_)) v0_ r1 ∧ Kd.V (Kd.int .i64) 3 w' w.heap.size (fun k_ => (w.heap.size ≤ k_)) v1_ r2 ∧ Kd.V (Kd.slice 51 k51) 52 w' w.heap.size (fun k_ => (w.heap.size ≤ k_)) v2_ r3 ∧ Below w.heap.size w w' := by
 unfold lower_Net.f at h; split at h
 ·rename_i hok
  have h := Option.some.inj h; simp only [Prod.mk.injEq] at h; obtain ⟨rfl, rfl, rfl⟩ := h; unfold lower_Net.ok at hok; simp only [Bool.and_eq_true, decide_eq_true_eq, List.all_eq_true] at hok; obtain ⟨⟨hl, hR⟩, hM⟩ := hok; have hsz : ∀ x : ByteArray, x.data.toList.length = x.size := fun x => Array.length_toList
  have hc := Go.Proofs.Ytcagkdgpoijkoaa.Low.net_calls (c0 := c0_0) (c1 := c0_1) (rows_mp hr0_0) (rows_rt hr0_1) a1_0 a1_1
   (fun r hr => by
    obtain ⟨x, hx, rfl⟩ := List.mem_map.1 hr; show x.f0.data.toList.length ≤ maxLen
    rw [hsz]; exact (hR x hx).1.1.1)
   (by rw [List.length_map]; exact hl)
   (fun r hr y hy => by
    obtain ⟨x, hx, rfl⟩ := List.mem_map.1 hr; obtain ⟨z, hz, rfl⟩ := List.mem_map.1 hy; show z.f1.data.toList.length ≤ maxLen
    rw [hsz]; exact (hR x hx).2 z hz)
   (fun r hr y hy => by
    obtain ⟨x, hx, rfl⟩ := List.mem_map.1 hr; obtain ⟨z, hz, rfl⟩ := List.mem_map.1 hy; show z.f0.data.toList.length ≤ maxLen
    rw [hsz]; exact (hR x hx).1.2 z hz)
   (fun m hm => by
    obtain ⟨x, hx, rfl⟩ := List.mem_map.1 hm; show (x.f1.map toCl).length ≤ 2000000000000
    rw [List.length_map]; exact hM x hx)
   (fun r hr => by
    obtain ⟨x, hx, rfl⟩ := List.mem_map.1 hr; show (x.f2.map toLk).length ≤ 1000000000
    rw [List.length_map]; exact (hR x hx).1.1.2)
  rw [List.length_map, List.length_map] at hc; refine hc.mono ?_; rintro e w' ⟨v0, v1, v2, rfl, H⟩; have hV0 := Go.Proofs.Ytcagkdgpoijkoaa.Bridge.V_of_own (d := Kd.bool) (fun x : Bool => x) 4 w.heap.size rfl (show 0 < 1 by decide) (fun w S y cs hk => hk) H; have hV1 := Go.Proofs.Ytcagkdgpoijkoaa.Bridge.V_of_own (d := Kd.int .i64) (fun x : Int => x) 3 w.heap.size rfl (show 0 < 1 by decide) (fun w S y cs hk => hk) H.pull1; have hV2 := Go.Proofs.Ytcagkdgpoijkoaa.Bridge.V_of_own (d := Kd.slice 51 k51) (fun es : List Go.Proofs.Ytcagkdgpoijkoaa.Mq.Ed => es.map frEd) 52 w.heap.size rfl (show 0 < 1 by decide) (fun w S y cs hk => Go.Proofs.Ytcagkdgpoijkoaa.Bridge.K_slice_back (d := k51) (r := Go.Proofs.Ytcagkdgpoijkoaa.Mq.edR) frEd rfl (fun y cs hk => K_frEd y cs hk) y cs hk) H.pull2; rw [List.map_id'] at hV0 hV1; exact ⟨v0, v1, v2, rfl, hV0, hV1, hV2, H.below⟩
 ·cases h
end Go.Proofs.Ytcagkdgpoijkoaa.PLm
end
section
namespace Go.Proofs
open Go.Shelf
def Try.sortPfx_ren : Go.Shelf.Ren := ⟨fun | 6 => 37 | 15 => 45 | 14 => 49 | 28 => 61 | 29 => 62 | 20 => 64 | 21 => 65 | 22 => 66 | 23 => 67 | 24 => 68 | 25 => 69 | 26 => 70 | 27 => 71 | 46 => 80 | 47 => 75 | 48 => 76 | 49 => 81 | 50 => 82 | 57 => 84 | n => n, fun | 22 => 72 | 24 => 35 | 25 => 101 | 3 => 3 | 39 => 111 | 0 => 0 | 53 => 33 | 55 => 131 | 4 => 4 | 46 => 123 | 45 => 122 | 50 => 105 | 5 => 5 | 9 => 9 | 66 => 140 | 70 => 144 | 76 => 149 | 77 => 150 | n => n, fun | n => n⟩
theorem Try.sortPfx : Go.Proofs.SlLaysF0.n6 Try.prog Try.sortPfx_ren := {
  mixed := by kernel_rfl
  f6 := ⟨Try.f37.name, by decide, Try.func37.trans (congrArg some (by kernel_rfl))⟩
  f14 := ⟨Try.f49.name, by decide, Try.func49.trans (congrArg some (by kernel_rfl))⟩
  f15 := Try.func45.trans (congrArg some (by kernel_rfl))
  f20 := ⟨Try.f64.name, by decide, Try.func64.trans (congrArg some (by kernel_rfl))⟩
  f21 := ⟨Try.f65.name, by decide, Try.func65.trans (congrArg some (by kernel_rfl))⟩
  f22 := ⟨Try.f66.name, by decide, Try.func66.trans (congrArg some (by kernel_rfl))⟩
  f23 := ⟨Try.f67.name, by decide, Try.func67.trans (congrArg some (by kernel_rfl))⟩
  f24 := ⟨Try.f68.name, by decide, Try.func68.trans (congrArg some (by kernel_rfl))⟩
  f25 := ⟨Try.f69.name, by decide, Try.func69.trans (congrArg some (by kernel_rfl))⟩
  f26 := ⟨Try.f70.name, by decide, Try.func70.trans (congrArg some (by kernel_rfl))⟩
  f27 := ⟨Try.f71.name, by decide, Try.func71.trans (congrArg some (by kernel_rfl))⟩
  f28 := Try.func61.trans (congrArg some (by kernel_rfl))
  f29 := Try.func62.trans (congrArg some (by kernel_rfl))
  f46 := ⟨Try.f80.name, by decide, Try.func80.trans (congrArg some (by kernel_rfl))⟩
  f47 := Try.func75.trans (congrArg some (by kernel_rfl))
  f48 := Try.func76.trans (congrArg some (by kernel_rfl))
  f49 := ⟨Try.f81.name, by decide, Try.func81.trans (congrArg some (by kernel_rfl))⟩
  f50 := ⟨Try.f82.name, by decide, Try.func82.trans (congrArg some (by kernel_rfl))⟩
  f57 := ⟨Try.f84.name, by decide, Try.func84.trans (congrArg some (by kernel_rfl))⟩
  t0 := Try.underlying0
  a0 := Try.isAgg0
  z0 := Try.sizeOf0
  v0 := Try.zeroValue0
  t3 := Try.underlying3
  a3 := Try.isAgg3
  z3 := Try.sizeOf3
  v3 := Try.zeroValue3
  t4 := Try.underlying4
  a4 := Try.isAgg4
  z4 := Try.sizeOf4
  v4 := Try.zeroValue4
  t5 := Try.underlying5
  a5 := Try.isAgg5
  z5 := Try.sizeOf5
  v5 := Try.zeroValue5
  t9 := Try.underlying9
  a9 := Try.isAgg9
  z9 := Try.sizeOf9
  v9 := Try.zeroValue9
  t22 := Try.underlying72
  a22 := Try.isAgg72
  z22 := Try.sizeOf72
  v22 := Try.zeroValue72
  t25 := Try.underlying101
  a25 := Try.isAgg101
  z25 := Try.sizeOf101
  v25 := Try.zeroValue101
  t39 := Try.underlying111
  a39 := Try.isAgg111
  z39 := Try.sizeOf111
  v39 := Try.zeroValue111
  t45 := Try.underlying122
  a45 := Try.isAgg122
  z45 := Try.sizeOf122
  v45 := Try.zeroValue122
  t46 := Try.underlying123
  a46 := Try.isAgg123
  z46 := Try.sizeOf123
  v46 := Try.zeroValue123
  t50 := Try.underlying105
  a50 := Try.isAgg105
  z50 := Try.sizeOf105
  v50 := Try.zeroValue105
  t53 := Try.underlying33
  a53 := Try.isAgg33
  z53 := Try.sizeOf33
  v53 := Try.zeroValue33
  t55 := Try.underlying131
  a55 := Try.isAgg131
  z55 := Try.sizeOf131
  v55 := Try.zeroValue131
  t66 := Try.underlying140
  a66 := Try.isAgg140
  z66 := Try.sizeOf140
  v66 := Try.zeroValue140
  t70 := Try.underlying144
  a70 := Try.isAgg144
  z70 := Try.sizeOf144
  v70 := Try.zeroValue144
  t76 := Try.underlying149
  a76 := Try.isAgg149
  z76 := Try.sizeOf149
  v76 := Try.zeroValue149
  t77 := Try.underlying150
  a77 := Try.isAgg150
  z77 := Try.sizeOf150
  v77 := Try.zeroValue150 }
end Go.Proofs
end
section
namespace Go.Proofs.Ytcagkdgpoijkoaa.SortP
open Go.RowKit Go.Sort Go.Proofs.Ytcagkdgpoijkoaa.Mq
set_option linter.unusedVariables false
set_option linter.unusedSimpArgs false
attribute [local go_sem ↓] Eq.eql_pf
instance : Inhabited Pf := ⟨⟨0, 0⟩⟩
def lessB (p q : Pf) : Bool := decide (p.addr < q.addr) || (p.addr == q.addr && decide (p.bits < q.bits))
def cfB (p q : Pf) : Int := if p = q then 0 else if lessB p q = true then -1 else 1
set_option maxHeartbeats 1000000 in
theorem less_calls (a b c d : Int) (W : World) : Calls Try.prog 39 #[.agg #[.int .u32 a, .int .i64 b], .agg #[.int .u32 c, .int .i64 d]] W fun e w' => e = .returned (.bool (lessB ⟨a, b⟩ ⟨c, d⟩)) ∧ ∃ os', w' = grow W os' := by
  by_cases h1 : a < c
  · have e1 : decide (a < c) = true := decide_eq_true h1
    (have e9 : lessB ⟨a, b⟩ ⟨c, d⟩ = true := by simp [lessB, h1]); rw [e9]; go_enter Try.func39, Try.ntmps39; go_wp2; go_ret; exact ⟨rfl, _, by rw [alloc_eq_grow, alloc_eq_grow, grow_grow]⟩
  · have e1 : decide (a < c) = false := decide_eq_false h1
    by_cases h2 : a = c
    · subst h2
      (have e2 : (a == a) = true := by simp); (have e9 : lessB ⟨a, b⟩ ⟨a, d⟩ = decide (b < d) := by simp [lessB]); rw [e9]; generalize hq : decide (b < d) = q; go_enter Try.func39, Try.ntmps39; go_wp2; go_ret; exact ⟨by simp [hq], _, by rw [alloc_eq_grow, alloc_eq_grow, grow_grow]⟩
    · have e2 : (a == c) = false := beq_eq_false_iff_ne.mpr h2
      (have e9 : lessB ⟨a, b⟩ ⟨c, d⟩ = false := by simp [lessB, h1, h2]); rw [e9]; go_enter Try.func39, Try.ntmps39; go_wp2; go_ret; exact ⟨rfl, _, by rw [alloc_eq_grow, alloc_eq_grow, grow_grow]⟩
set_option maxHeartbeats 1000000 in
theorem closure_calls (p q : Pf) (W : World) : Calls Try.prog 38 #[.agg #[.int .u32 p.addr, .int .i64 p.bits], .agg #[.int .u32 q.addr, .int .i64 q.bits]] W fun e w' => e = .returned (.int .i64 (cfB p q)) ∧ ∃ n os', w' = grow (W.drewN n) os' := by
  obtain ⟨a, b⟩ := p; obtain ⟨c, d⟩ := q; have hl := less_calls a b c d; by_cases he : a = c ∧ b = d
  · obtain ⟨rfl, rfl⟩ := he
    (have e1 : (a == a && b == b) = true := by simp); (have e9 : cfB ⟨a, b⟩ ⟨a, b⟩ = 0 := by simp [cfB]); rw [e9]; go_enter Try.func38, Try.ntmps38; go_wp2; go_ret; exact ⟨rfl, 0, _, by rw [alloc_eq_grow, alloc_eq_grow, grow_grow]; rfl⟩
  · have e1 : (a == c && b == d) = false := by
      cases h : (a == c && b == d) with
      | false => rfl
      | true =>
        simp at h; exact absurd h he
    have e9 : cfB ⟨a, b⟩ ⟨c, d⟩ = if lessB ⟨a, b⟩ ⟨c, d⟩ = true then -1 else 1 := by
      unfold cfB; rw [if_neg (by intro h; injection h with h1 h2; exact he ⟨h1, h2⟩)]
    rw [e9]; generalize lessB ⟨a, b⟩ ⟨c, d⟩ = lb at hl; cases lb
    all_goals
      go_enter Try.func38, Try.ntmps38; go_wp2_with (go_at_call 39; refine (hl _).mono ?_; rintro e w' ⟨rfl, os', rfl⟩); go_ret; exact ⟨rfl, 0, _, by rw [alloc_eq_grow, alloc_eq_grow, grow_grow, grow_grow]; rfl⟩
theorem lt_eq (p q : Pf) : ltOf cfB p q = lessB p q := by
  unfold ltOf cfB; by_cases h : p = q
  · subst h
    simp [lessB]
  · rw [if_neg h]
    cases lessB p q <;> simp
theorem swo : SWO (ltOf cfB) where
  irrefl x := by rw [lt_eq]; simp [lessB]
  trans x y z h1 h2 := by
    rw [lt_eq] at *; simp only [lessB, Bool.or_eq_true, decide_eq_true_eq, Bool.and_eq_true, beq_iff_eq] at *; omega
  ntrans x y z h1 h2 := by
    rw [lt_eq] at *; simp only [lessB, Bool.or_eq_false_iff, decide_eq_false_iff_not, Bool.and_eq_false_iff, beq_eq_false_iff_ne] at *; omega
theorem total (x y : Pf) (h1 : ltOf cfB x y = false) (h2 : ltOf cfB y x = false) : x = y := by
  rw [lt_eq] at *; simp only [lessB, Bool.or_eq_false_iff, decide_eq_false_iff_not, Bool.and_eq_false_iff, beq_eq_false_iff_ne] at *; cases x; cases y; simp only at *; congr 1 <;> omega
def leB (x y : Pf) : Bool := !(lessB y x)
theorem cmpLays (blk off size : Nat) (w : World) : CmpLays Try.prog 38 #[] Pf.enc 2 cfB blk off size w :=
  fun _ _ _ _ x y => closure_calls x y _
theorem take_put (F cur : Array Value) (h : F.size ≤ cur.size) : (putCells (fun v : Value => v) 0 F cur).toList.take F.size = F.toList := by
  apply List.ext_getElem?; intro i; rw [List.getElem?_take]; by_cases hi : i < F.size
  · rw [if_pos hi]
    simp [putCells, hi, show i < cur.size by omega]
  · rw [if_neg hi, List.getElem?_eq_none (by simpa using hi)]
theorem flat_at (ys : List Pf) (j i : Nat) (p : Pf) (hj : ys[j]? = some p) (hi : i < 2) : (flatK Pf.enc 2 ys.toArray)[j * 2 + i]? = (p.enc)[i]? := by
  obtain ⟨hj1, rfl⟩ := List.getElem?_eq_some_iff.1 hj; (have ht : j * 2 + i < ys.toArray.size * 2 := by simp; omega); have h := get_flatK Pf.enc 2 ys.toArray (j * 2 + i) ht; rw [getElem!_pos _ _ (by simpa using ht)] at h; rw [Array.getElem?_eq_getElem (by simpa using ht), h, show (j * 2 + i) / 2 = j by omega, show (j * 2 + i) % 2 = i by omega]
  have e1 : ys.toArray[j]! = ys[j] := by
    rw [getElem!_pos _ _ (by simpa using hj1)]; rfl
  rw [e1]; have hl : i < (ys[j].enc).length := hi; rw [getElem!_pos (ys[j].enc) i hl, List.getElem?_eq_getElem hl]
theorem sortp_mem {M Z : Nat → Prop} {w0 W : World} {R l : List Asr} {v : Value} {xs : List Pf} (H : MemM M Z w0 W R (own pfR 35 v xs :: l)) (hl : xs.length < 4611686018427387904) :
    Calls Try.prog 37 #[v, .func (.func 38) #[] #[]] W fun e W1 => e = .returned (.tuple #[]) ∧ MemM M Z w0 W1 R (own pfR 35 v (xs.mergeSort leB) :: l) := by
  obtain ⟨F, S, ⟨h1, cells, ⟨hil, ho⟩, hr⟩, h2, h3, h4, h5, h6⟩ := H.open1; rcases ho with ⟨rfl, hn⟩ | ⟨g, cap, cur, rfl, hg, hh, hn, hm, hs, ht⟩
  · have : xs = [] := List.eq_nil_of_length_eq_zero hn
    subst this; have hcon := AnyF.slices_SortFunc_none (P := Try.prog) (ρ := Try.sortPfx_ren) Try.sortPfx none 0 (.func (.func 38) #[] #[]) W; refine hcon.mono ?_; rintro e w' ⟨rfl, rfl⟩; exact ⟨rfl, by simpa using H⟩
  · have hgs : g < W.heap.size := (Array.getElem?_eq_some_iff.1 hh).1
    (have hcs : xs.length * 2 ≤ cur.size := by rw [hs]; show xs.length * 2 ≤ cap * 2; omega); have hfs : (flatK Pf.enc 2 xs.toArray).size = xs.length * 2 := by simp
    have hH : HoldsK Pf.enc 2 W g 0 xs.toArray := by
      intro t htt; rw [hfs] at htt; (have hj : t / 2 < xs.length := by omega); have hp := hr.2 (t / 2) xs[t / 2] (List.getElem?_eq_getElem hj); have hp' : ((cells.drop (t / 2 * 2)).take 2) = xs[t / 2].enc := hp; have hc := Reps.cells hr (List.getElem?_eq_getElem hj) (show t % 2 < 2 by omega); have hc' : cells[t / 2 * 2 + t % 2]? = ((cells.drop (t / 2 * 2)).take 2)[t % 2]? := hc; rw [hp', ← flat_at xs (t / 2) (t % 2) _ (List.getElem?_eq_getElem hj) (by omega), show t / 2 * 2 + t % 2 = t by omega] at hc'; rw [Array.getElem?_eq_getElem (by rw [hfs]; exact htt)] at hc'
      have hcur : cur[t]? = some (flatK Pf.enc 2 xs.toArray)[t] := by
        rw [← ht, List.getElem?_take] at hc'; split at hc'
        · simpa using hc'
        · cases hc'
      refine ⟨?_, ?_⟩
      · rw [Nat.zero_add, getElem!_pos _ _ (by rw [hfs]; exact htt)]
        simp [World.cell?, hh, hcur]
      · simp [World.frozen?, hh]
    have hcon := AnyQ.slices_SortFunc_total (P := Try.prog) (ρ := Try.sortPfx_ren) Try.sortPfx 2 Try.isAgg35 Try.sizeOf35 Pf.enc (fun _ => rfl) (fun x v hv => by simp [Pf.enc] at hv; rcases hv with rfl | rfl <;> rfl) cfB swo 38 #[] g 0 cap xs.toArray W (enters_of Try.func38 (by kernel_rfl) rfl) (cmpLays g 0 _ W) hH hgs (by simpa using hl) total
    have hcon' : Calls Try.prog 37 #[.slice (some ⟨g, 0, none⟩) xs.length cap, .func (.func 38) #[] #[]] W fun e w' => e = .returned (.tuple #[]) ∧ ∃ n os, w' = sortWorldK Pf.enc 2 W g 0 n (xs.mergeSort leB).toArray os := by
      have e : (xs.toArray.toList.mergeSort fun x y => !(ltOf cfB) y x) = xs.mergeSort leB := by
        have : (fun x y => !(ltOf cfB) y x) = leB := by
          funext x y; rw [lt_eq]; rfl
        rw [this]
      rw [e] at hcon; exact hcon
    refine hcon'.mono ?_; rintro e w' ⟨rfl, m, os, rfl⟩; generalize hys : xs.mergeSort leB = ys; (have hyl : ys.length = xs.length := by rw [← hys]; simp); have hyf : (flatK Pf.enc 2 ys.toArray).size = xs.length * 2 := by simp [hyl]
    have hb : ∀ k, k < W.heap.size → (sortWorldK Pf.enc 2 W g 0 m ys.toArray os).heap[k]? = if k = g then some (.cells (putCells (fun v : Value => v) 0 (flatK Pf.enc 2 ys.toArray) cur) 35 (0, 0)) else W.heap[k]? := by
      intro k hk; unfold sortWorldK putRowK; rw [heap_grow_old _ _ (by simpa [putRow, mapBlock, Go.Sort.ahead] using hk)]; unfold putRow mapBlock Go.Sort.ahead; simp only [Array.getElem?_modify]; by_cases hkg : k = g
      · subst hkg
        simp [hh, onCells]; rfl
      · simp [hkg, Ne.symm hkg]
    (have hsz : W.heap.size ≤ (sortWorldK Pf.enc 2 W g 0 m ys.toArray os).heap.size := by simp [sortWorldK, putRowK, grow, putRow, mapBlock, Go.Sort.ahead]); refine ⟨rfl, h6 _ (own pfR 35 (.slice (some ⟨g, 0, none⟩) xs.length cap) ys) (some g) ⟨rfl, rfl, rfl, hsz, fun k hk hne => ?_⟩ (fun k e => h1 k e) ⟨fun k hk => .inl (h1 k hk), (flatK Pf.enc 2 ys.toArray).toList, ⟨?_, .inr ⟨g, cap, _, by rw [hyl], hg, (hb g hgs).trans (if_pos rfl), by rw [hyl]; exact hn, hm, ?_, ?_⟩⟩, ?_, ?_⟩⟩
    · rw [hb k hk, if_neg (fun e : k = g => hne (by rw [e]))]
    · show _ = ys.length * 2
      rw [Array.length_toList, hyf, hyl]
    · simp only [putCells, Array.size_mapIdx]; exact hs
    · show List.take (ys.length * 2) _ = _
      rw [hyl, ← hyf]; exact take_put _ cur (by rw [hyf]; exact hcs)
    · show _ = ys.length * 2
      rw [Array.length_toList, hyf, hyl]
    · intro j p hj
      show (((flatK Pf.enc 2 ys.toArray).toList.drop (j * 2)).take 2) = p.enc; have hj1 := (List.getElem?_eq_some_iff.1 hj).1; apply List.ext_getElem?; intro i; rw [List.getElem?_take]; by_cases hi : i < 2
      · rw [if_pos hi, List.getElem?_drop, Array.getElem?_toList, flat_at ys j i p hj hi]
      · rw [if_neg hi, List.getElem?_eq_none (by show 2 ≤ i; omega)]
end Go.Proofs.Ytcagkdgpoijkoaa.SortP
end
