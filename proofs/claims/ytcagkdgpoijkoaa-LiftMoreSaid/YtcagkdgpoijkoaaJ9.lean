/- Texts of this work, joined: PLmx1, PLmx25, PLmx26, PLmx27. -/
import Derived.Test.YtcagkdgpoijkoaaPLmx0
import Derived.Test.YtcagkdgpoijkoaaShort
import Derived.Test.YtcagkdgpoijkoaaSh2
import Derived.Test.YtcagkdgpoijkoaaJ7
import Derived.Test.YtcagkdgpoijkoaaOf
import Derived.Test.YtcagkdgpoijkoaaJ5
import Derived.Test.YtcagkdgpoijkoaaPLmx19
section
namespace Go.Proofs.Ytcagkdgpoijkoaa.PLm
open Go.RowKit Go.Proofs.YtcagkdgpoijkoaaW.PrintWords Go.Proofs.YtcagkdgpoijkoaaW.PrintLast Go.Proofs.YtcagkdgpoijkoaaW.PrintMore
attribute [local go_sem] max2_int min2_int max_two min_two max_three min_three max_four min_four
set_option linter.unusedVariables false
set_option linter.unusedSimpArgs false
theorem eqA41 (d : Nat) (w : World) (x0 y0 : Bool) (x1 y1 : Int) (x2 y2 : Int) (x3 y3 : Int) :
    (Op.equalIn (d + 2) 41 (.agg #[.bool x0, .int .i64 x1, .int .i64 x2, .int .u8 x3]) (.agg #[.bool y0, .int .i64 y1, .int .i64 y2, .int .u8 y3])).run Try.prog w = .ok (x0 == y0 && (x1 == y1 && (x2 == y2 && (x3 == y3)))) w := by
  refine eqA_of Try.underlying41 (by kernel_rfl) ?_; refine eqf_cons (by rfl) (by go_simp; rfl) (by go_simp; rfl) (by go_simp) ?_; refine eqf_cons (by rfl) (by go_simp; rfl) (by go_simp; rfl) (by go_simp) ?_; refine eqf_cons (by rfl) (by go_simp; rfl) (by go_simp; rfl) (by go_simp) ?_; exact eqf_last (by rfl) (by go_simp; rfl) (by go_simp; rfl) (by go_simp)
end Go.Proofs.Ytcagkdgpoijkoaa.PLm
end
section
namespace Go.Proofs.Ytcagkdgpoijkoaa.PLm
open Go.RowKit Go.Proofs.Ytcagkdgpoijkoaa.Short Go.Proofs.YtcagkdgpoijkoaaW.PrintWords Go.Proofs.YtcagkdgpoijkoaaW.PrintLast Go.Proofs.YtcagkdgpoijkoaaW.PrintMore
attribute [local go_sem] max2_int min2_int max_two min_two max_three min_three max_four min_four
set_option linter.unusedVariables false
set_option linter.unusedSimpArgs false
attribute [local go_sem high] eqA41
def attr_Same.f (a0_0 : Bool) (a0_1 : Int) (a0_2 : Int) (a0_3 : Int) (a1_0 : Bool) (a1_1 : Int) (a1_2 : Int) (a1_3 : Int) : Option (Bool) := if a0_0 = true then (some (a0_0 == a1_0 && (a0_1 == a1_1 && (a0_2 == a1_2 && (a0_3 == a1_3))))) else (if a1_0 = true then (some (a0_0 == a1_0 && (a0_1 == a1_1 && (a0_2 == a1_2 && (a0_3 == a1_3))))) else (some true))
set_option maxHeartbeats 8000000 in
set_option maxRecDepth 100000 in
theorem attr_Same.calls (a0_0 : Bool) (a0_1 : Int) (a0_2 : Int) (a0_3 : Int) (a1_0 : Bool) (a1_1 : Int) (a1_2 : Int) (a1_3 : Int) (r : Bool) (w : World) (h : attr_Same.f a0_0 a0_1 a0_2 a0_3 a1_0 a1_1 a1_2 a1_3 = some r) :
  Calls Try.prog 13 #[.agg #[.bool a0_0, .int .i64 a0_1, .int .i64 a0_2, .int .u8 a0_3], .agg #[.bool a1_0, .int .i64 a1_1, .int .i64 a1_2, .int .u8 a1_3]] w fun e w' => e = .returned (.bool r) ∧ Below w.heap.size w w' := by
 have hu41 := Try.underlying41; have HB := A_ (Below.refl w.heap.size w); unfold attr_Same.f at h; have H := h; clear h; by_cases c3 : a0_0 = true
 ·subst c3
  rw [if_pos rfl] at H; obtain rfl := Option.some.inj H; go_enter Try.func13, Try.ntmps13; go_wp2_with (first | ((with_reducible refine gate_dst (N := 2) rfl ?_); refine bx 2 (cs := #[.bool true, .int .i64 a0_1, .int .i64 a0_2, .int .u8 a0_3]) (t := 41) (h := ?_); intro gb269 hg w4 hbox hb; have BK269 := A_ hbox; have GW269 : Aside0 (w.heap.size ≤ gb269) := bge hg; replace HB := bst hb; clear hb hbox hg) | ((with_reducible refine gate_dst (N := 3) rfl ?_); refine bx 3 (cs := #[.bool a1_0, .int .i64 a1_1, .int .i64 a1_2, .int .u8 a1_3]) (t := 41) (h := ?_); intro gb270 hg w5 hbox hb; have BK270 := A_ hbox; have GW270 : Aside0 (w.heap.size ≤ gb270) := bge hg; have NB269_270 := bne BK269 hg; have NB270_269 := bnf BK269 hg; replace BK269 := bkb BK269 hb; replace HB := bst hb; clear hb hbox hg; have hnb6 := NB269_270.out; have hnc6 := NB270_269.out; have hcz7 := bc4 BK269; have hcz8 := bc4 BK270)); go_ret; exact ⟨eqd, bel⟩
 ·replace c3 := Bool.eq_false_iff.mpr c3
  subst c3; rw [if_neg (show ¬ (false = true) by decide)] at H; by_cases c9 : a1_0 = true
  ·subst c9
   rw [if_pos rfl] at H; obtain rfl := Option.some.inj H; go_enter Try.func13, Try.ntmps13; go_wp2_with (first | ((with_reducible refine gate_dst (N := 2) rfl ?_); refine bx 2 (cs := #[.bool false, .int .i64 a0_1, .int .i64 a0_2, .int .u8 a0_3]) (t := 41) (h := ?_); intro gb269 hg w10 hbox hb; have BK269 := A_ hbox; have GW269 : Aside0 (w.heap.size ≤ gb269) := bge hg; replace HB := bst hb; clear hb hbox hg) | ((with_reducible refine gate_dst (N := 3) rfl ?_); refine bx 3 (cs := #[.bool true, .int .i64 a1_1, .int .i64 a1_2, .int .u8 a1_3]) (t := 41) (h := ?_); intro gb270 hg w11 hbox hb; have BK270 := A_ hbox; have GW270 : Aside0 (w.heap.size ≤ gb270) := bge hg; have NB269_270 := bne BK269 hg; have NB270_269 := bnf BK269 hg; replace BK269 := bkb BK269 hb; replace HB := bst hb; clear hb hbox hg; have hnb12 := NB269_270.out; have hnc12 := NB270_269.out; have hcz13 := bc4 BK269; have hcz14 := bc4 BK270)); go_ret; exact ⟨eqd, bel⟩
  ·replace c9 := Bool.eq_false_iff.mpr c9
   subst c9; rw [if_neg (show ¬ (false = true) by decide)] at H; obtain rfl := Option.some.inj H; go_enter Try.func13, Try.ntmps13; go_wp2_with (first | ((with_reducible refine gate_dst (N := 2) rfl ?_); refine bx 2 (cs := #[.bool false, .int .i64 a0_1, .int .i64 a0_2, .int .u8 a0_3]) (t := 41) (h := ?_); intro gb269 hg w15 hbox hb; have BK269 := A_ hbox; have GW269 : Aside0 (w.heap.size ≤ gb269) := bge hg; replace HB := bst hb; clear hb hbox hg) | ((with_reducible refine gate_dst (N := 3) rfl ?_); refine bx 3 (cs := #[.bool false, .int .i64 a1_1, .int .i64 a1_2, .int .u8 a1_3]) (t := 41) (h := ?_); intro gb270 hg w16 hbox hb; have BK270 := A_ hbox; have GW270 : Aside0 (w.heap.size ≤ gb270) := bge hg; have NB269_270 := bne BK269 hg; have NB270_269 := bnf BK269 hg; replace BK269 := bkb BK269 hb; replace HB := bst hb; clear hb hbox hg; have hnb17 := NB269_270.out; have hnc17 := NB270_269.out; have hcz18 := bc4 BK269; have hcz19 := bc4 BK270)); go_ret; exact ⟨eqd, bel⟩
end Go.Proofs.Ytcagkdgpoijkoaa.PLm
end
section
namespace Go.Proofs.Ytcagkdgpoijkoaa.PLm
open Go.RowKit Go.Proofs.YtcagkdgpoijkoaaW.PrintWords Go.Proofs.YtcagkdgpoijkoaaW.PrintLast Go.Proofs.YtcagkdgpoijkoaaW.PrintMore
attribute [local go_sem] max2_int min2_int max_two min_two max_three min_three max_four min_four
set_option linter.unusedVariables false
set_option linter.unusedSimpArgs false
def toAt (x : S41) : Go.Proofs.Ytcagkdgpoijkoaa.OfP.At := ⟨x.f0, x.f1, x.f2, x.f3⟩
theorem row_at {w : World} {A : Option Addr} {n : Nat} {g : List S41} (h : Kd.C k41 w A n g) : Go.Proofs.Ytcagkdgpoijkoaa.Mq.Row Go.Proofs.Ytcagkdgpoijkoaa.OfP.atR w (· < w.heap.size) A (g.map toAt) :=
  Go.Proofs.Ytcagkdgpoijkoaa.Bridge.row_of_C (r := Go.Proofs.Ytcagkdgpoijkoaa.OfP.atR) toAt rfl (show 0 < 4 by decide) (fun x cs hx => by have h_ := k41_open hx; subst h_; rfl) h
end Go.Proofs.Ytcagkdgpoijkoaa.PLm
end
section
namespace Go.Proofs.Ytcagkdgpoijkoaa.PLm
open Go.RowKit Go.Proofs.Ytcagkdgpoijkoaa.Short Go.Proofs.YtcagkdgpoijkoaaW.PrintWords Go.Proofs.YtcagkdgpoijkoaaW.PrintLast Go.Proofs.YtcagkdgpoijkoaaW.PrintMore
attribute [local go_sem] max2_int min2_int max_two min_two max_three min_three max_four min_four
set_option linter.unusedVariables false
set_option linter.unusedSimpArgs false
def forward_Of.offs (k : Nat) (l0_0 : List Bool) (l0_1 : List Int) (l0_2 : List (List S51)) (l1 : List S41) (j : Nat) : List S41 := (stable_Offers.f k l0_0 l0_1 l0_2 l1 j).getD []
def forward_Of.ok (k : Nat) (l0_0 : List Bool) (l0_1 : List Int) (l0_2 : List (List S51)) (l1 : List S41) : Bool :=
 decide (l0_0.length ≤ 1000000000) && (List.range l0_0.length).all fun j => match stable_Offers.f k l0_0 l0_1 l0_2 l1 j with
  | some r => decide (r.length ≤ 1000000000) && decide (r.length ≤ (l0_2.getD j []).length)
  | none => false
def forward_Of.f (k : Nat) (l0_0 : List Bool) (l0_1 : List Int) (l0_2 : List (List S51)) (l1 : List S41) : Option (List (List Int)) :=
 if forward_Of.ok k l0_0 l0_1 l0_2 l1 = true then some (Go.Proofs.Ytcagkdgpoijkoaa.OfP.ofB l0_0 l0_1 (l0_2.map (·.map toEd)) (l1.map toAt) fun j => (forward_Of.offs k l0_0 l0_1 l0_2 l1 j).map toAt) else none
theorem forward_Of.ok_at {k : Nat} {l0_0 : List Bool} {l0_1 : List Int} {l0_2 : List (List S51)} {l1 : List S41} (h : forward_Of.ok k l0_0 l0_1 l0_2 l1 = true) {j : Nat} (hj : j < l0_0.length) :
  ∃ r, stable_Offers.f k l0_0 l0_1 l0_2 l1 j = some r ∧ r.length ≤ 1000000000 ∧ r.length ≤ (l0_2.getD j []).length := by
 unfold forward_Of.ok at h; simp only [Bool.and_eq_true, List.all_eq_true] at h; have h1 := h.2 j (List.mem_range.2 hj)
 cases hr : stable_Offers.f k l0_0 l0_1 l0_2 l1 j with
 | none => rw [hr] at h1; cases h1
 | some r =>
  rw [hr] at h1; simp only [Bool.and_eq_true, decide_eq_true_eq] at h1; exact ⟨r, rfl, h1.1, h1.2⟩
theorem forward_Of.mono : ∀ a0 a1 a2 a3 k, LeO (forward_Of.f k a0 a1 a2 a3) (forward_Of.f (k + 1) a0 a1 a2 a3) := by
 intro a0 a1 a2 a3 k r h; unfold forward_Of.f at h ⊢; split at h
 ·rename_i hok
  have hs : ∀ j, j < a0.length → stable_Offers.f (k + 1) a0 a1 a2 a3 j = stable_Offers.f k a0 a1 a2 a3 j := fun j hj => by
   obtain ⟨r, hr, _⟩ := forward_Of.ok_at hok hj; rw [hr]; exact stable_Offers.mono _ _ _ _ _ _ _ hr
  have hok2 : forward_Of.ok (k + 1) a0 a1 a2 a3 = true := by
   unfold forward_Of.ok at hok ⊢; simp only [Bool.and_eq_true, List.all_eq_true] at hok ⊢; refine ⟨hok.1, fun j hj => ?_⟩; rw [hs j (List.mem_range.1 hj)]; exact hok.2 j hj
  rw [if_pos hok2, ← h]; congr 1; unfold Go.Proofs.Ytcagkdgpoijkoaa.OfP.ofB Go.Proofs.Ytcagkdgpoijkoaa.OfP.ofN; (refine List.map_congr_left fun j hj => ?_); split
  ·unfold Go.Proofs.Ytcagkdgpoijkoaa.OfP.ofRow forward_Of.offs
   dsimp only; rw [hs j (List.mem_range.1 hj)]
  ·rfl
 ·cases h
theorem forward_Of.same (a b : S41) : attr_Same.f a.f0 a.f1 a.f2 a.f3 b.f0 b.f1 b.f2 b.f3 = some (Go.Proofs.Ytcagkdgpoijkoaa.OfP.sameB (toAt a) (toAt b)) := by
 unfold attr_Same.f Go.Proofs.Ytcagkdgpoijkoaa.OfP.sameB toAt; obtain ⟨a0, a1, a2, a3⟩ := a; obtain ⟨b0, b1, b2, b3⟩ := b; cases a0 <;> cases b0 <;> by_cases h1 : a1 = b1 <;> by_cases h2 : a2 = b2 <;> by_cases h3 : a3 = b3 <;> simp [h1, h2, h3]
theorem forward_Of.calls (k : Nat) (A0_0 : Option Addr) (c0_0 : Nat) (l0_0 : List Bool) (A0_1 : Option Addr) (c0_1 : Nat) (l0_1 : List Int) (A0_2 : Option Addr) (c0_2 : Nat) (l0_2 : List (List (S51))) (A1 : Option Addr) (c1 : Nat) (l1 : List (S41)) (r : List (List Int)) (w : World) (hr0_0 : Kd.C Kd.bool w A0_0 l0_0.length l0_0) (hc0_0 : l0_0.length ≤ c0_0) (hr0_1 : Kd.C (Kd.int .i64) w A0_1 l0_1.length l0_1) (hc0_1 : l0_1.length ≤ c0_1) (hr0_2 : Kd.C (Kd.slice 51 k51) w A0_2 l0_2.length l0_2) (hc0_2 : l0_2.length ≤ c0_2) (hr1 : Kd.C k41 w A1 l1.length l1) (hc1 : l1.length ≤ c1) (h : forward_Of.f k l0_0 l0_1 l0_2 l1 = some r) :
  Calls Try.prog 11 #[.agg #[.slice A0_0 l0_0.length c0_0, .slice A0_1 l0_1.length c0_1, .slice A0_2 l0_2.length c0_2], .slice A1 l1.length c1] w fun e w' => ∃ v0_ : Value, e = .returned (v0_) ∧ Kd.V (Kd.slice 3 (Kd.int .i64)) 29 w' w.heap.size (fun k_ => (w.heap.size ≤ k_)) v0_ r ∧ Below w.heap.size w w' := by
 unfold forward_Of.f at h; split at h
 ·rename_i hok
  have h := Option.some.inj h
  have hol : l0_0.length ≤ 1000000000 := by
   unfold forward_Of.ok at hok; simp only [Bool.and_eq_true, decide_eq_true_eq] at hok; exact hok.1
  have hoc := Go.Proofs.Ytcagkdgpoijkoaa.Of.of_calls (c0 := c0_0) (c1 := c0_1) (c2 := c0_2) (cL := c1) (Go.Proofs.Ytcagkdgpoijkoaa.Bridge.row_bool hr0_0) (by simpa using Go.Proofs.Ytcagkdgpoijkoaa.Bridge.row_of_C (r := Go.Proofs.Ytcagkdgpoijkoaa.Mq.int .i64) (fun x : Int => x) rfl (show 0 < 1 by decide) (fun x cs hx => hx) hr0_1) (rows_ed hr0_2) (row_at hr1) hol (fun j => (forward_Of.offs k l0_0 l0_1 l0_2 l1 j).map toAt)
   (fun j W hj hB => by
    obtain ⟨rj, hrj, _, _⟩ := forward_Of.ok_at hok hj; rw [List.length_map, List.length_map]; refine (stable_Offers.calls k A0_0 c0_0 l0_0 A0_1 c0_1 l0_1 A0_2 c0_2 l0_2 A1 c1 l1 j rj W (Kd.C_below hr0_0 hB) hc0_0 (Kd.C_below hr0_1 hB) hc0_1 (Kd.C_below hr0_2 hB) hc0_2 (Kd.C_below hr1 hB) hc1 hrj).mono ?_; rintro e W' ⟨v, rfl, hR, hb⟩; refine ⟨v, rfl, ?_⟩; have := Go.Proofs.Ytcagkdgpoijkoaa.Bridge.own_of_R (r := Go.Proofs.Ytcagkdgpoijkoaa.OfP.atR) toAt rfl (fun W b ok x cs hx S => by have h_ := k41_openM hx; subst h_; rfl) hR hb; unfold forward_Of.offs; rw [hrj]
    exact this)
   (fun j hj => by
    obtain ⟨rj, hrj, _, h2⟩ := forward_Of.ok_at hok hj; unfold forward_Of.offs; rw [hrj, List.length_map]; refine Nat.le_trans h2 (Nat.le_of_eq ?_); simp only [List.getD_eq_getElem?_getD, List.getElem?_map]
    cases l0_2[j]? <;> simp)
   (fun j hj => by
    obtain ⟨rj, hrj, h1, _⟩ := forward_Of.ok_at hok hj; unfold forward_Of.offs; rw [hrj, List.length_map]
    exact h1)
   (fun a b W => by
    refine (attr_Same.calls a.ok a.pref a.cost a.tags b.ok b.pref b.cost b.tags _ W (forward_Of.same ⟨a.ok, a.pref, a.cost, a.tags⟩ ⟨b.ok, b.pref, b.cost, b.tags⟩)).mono ?_; rintro e W' ⟨rfl, hb⟩
    exact ⟨rfl, Go.Proofs.Ytcagkdgpoijkoaa.Mq.mem_of_below hb⟩)
  rw [List.length_map, List.length_map] at hoc; refine hoc.mono ?_; rintro e w' ⟨v, rfl, H⟩; have hV := Go.Proofs.Ytcagkdgpoijkoaa.Bridge.V_of_own (d := Kd.slice 3 (Kd.int .i64)) (fun x : List Int => x) 29 w.heap.size rfl (show 0 < 1 by decide) (fun w S y cs hk => by simpa using Go.Proofs.Ytcagkdgpoijkoaa.Bridge.K_slice_back (d := Kd.int .i64) (r := Go.Proofs.Ytcagkdgpoijkoaa.Mq.int .i64) (fun x : Int => x) rfl (fun y cs hk => hk) y cs hk) H; rw [h, List.map_id'] at hV; exact ⟨v, rfl, hV, H.below⟩
 ·cases h
end Go.Proofs.Ytcagkdgpoijkoaa.PLm
end
