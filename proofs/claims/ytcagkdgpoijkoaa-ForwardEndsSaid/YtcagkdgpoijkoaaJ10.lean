/- Texts of this work, joined: PLmx1, PLmx25, PLmx26, PLmx27, PLmx20, PLmx21, PLmx22, PLmx23, PLmx24, LiN, FwQ, PLmx28, PLmx29, PLmx30. -/
import Derived.Test.YtcagkdgpoijkoaaJ5
import Derived.Test.YtcagkdgpoijkoaaJ0
import Derived.Test.YtcagkdgpoijkoaaJ7
import Derived.Test.YtcagkdgpoijkoaaJ9
import Derived.Test.YtcagkdgpoijkoaaPLmx12
import Derived.Test.YtcagkdgpoijkoaaJ1
section
namespace Go.Proofs.Ytcagkdgpoijkoaa.PLm
open Go.RowKit Go.Proofs.YtcagkdgpoijkoaaW.PrintWords Go.Proofs.YtcagkdgpoijkoaaW.PrintLast Go.Proofs.YtcagkdgpoijkoaaW.PrintMore
attribute [local go_sem] max2_int min2_int max_two min_two max_three min_three max_four min_four
set_option linter.unusedVariables false
set_option linter.unusedSimpArgs false
theorem eqA41 (d : Nat) (w : World) (x0 y0 : Bool) (x1 y1 : Int) (x2 y2 : Int) (x3 y3 : Int) :
    (Op.equalIn (d + 2) 41 (.agg #[.bool x0, .int .i64 x1, .int .i64 x2, .int .u8 x3]) (.agg #[.bool y0, .int .i64 y1, .int .i64 y2, .int .u8 y3])).run Try.prog w = .ok (x0 == y0 && (x1 == y1 && (x2 == y2 && (x3 == y3)))) w := by
  refine eqA_of Try.underlying41 (by kernel_rfl) ?_; refine eqf_cons (by rfl) (by go_simp; rfl) (by go_simp; rfl) (by go_simp) ?_; refine eqf_cons (by rfl) (by go_simp; rfl) (by go_simp; rfl) (by go_simp) ?_; refine eqf_cons (by rfl) (by go_simp; rfl) (by go_simp; rfl) (by go_simp) ?_; exact eqf_last (by rfl) (by go_simp; rfl) (by go_simp; rfl) (by go_simp)
end Go.Proofs.Ytcagkdgpoijkoaa.PLm
end
section
namespace Go.Proofs.Ytcagkdgpoijkoaa.PLm
open Go.RowKit Go.Proofs.Ytcagkdgpoijkoaa.Short Go.Proofs.YtcagkdgpoijkoaaW.PrintWords Go.Proofs.YtcagkdgpoijkoaaW.PrintLast Go.Proofs.YtcagkdgpoijkoaaW.PrintMore
attribute [local go_sem] max2_int min2_int max_two min_two max_three min_three max_four min_four
set_option linter.unusedVariables false
set_option linter.unusedSimpArgs false
attribute [local go_sem high] eqA41
def attr_Same.f (a0_0 : Bool) (a0_1 : Int) (a0_2 : Int) (a0_3 : Int) (a1_0 : Bool) (a1_1 : Int) (a1_2 : Int) (a1_3 : Int) : Option (Bool) := if a0_0 = true then (some (a0_0 == a1_0 && (a0_1 == a1_1 && (a0_2 == a1_2 && (a0_3 == a1_3))))) else (if a1_0 = true then (some (a0_0 == a1_0 && (a0_1 == a1_1 && (a0_2 == a1_2 && (a0_3 == a1_3))))) else (some true))
set_option maxHeartbeats 8000000 in
set_option maxRecDepth 100000 in
theorem attr_Same.calls (a0_0 : Bool) (a0_1 : Int) (a0_2 : Int) (a0_3 : Int) (a1_0 : Bool) (a1_1 : Int) (a1_2 : Int) (a1_3 : Int) (r : Bool) (w : World) (h : attr_Same.f a0_0 a0_1 a0_2 a0_3 a1_0 a1_1 a1_2 a1_3 = some r) :
  Calls Try.prog 13 #[.agg #[.bool a0_0, .int .i64 a0_1, .int .i64 a0_2, .int .u8 a0_3], .agg #[.bool a1_0, .int .i64 a1_1, .int .i64 a1_2, .int .u8 a1_3]] w fun e w' => e = .returned (.bool r) ∧ Below w.heap.size w w' := by
 have hu41 := Try.underlying41; have HB := A_ (Below.refl w.heap.size w); unfold attr_Same.f at h; have H := h; clear h; by_cases c3 : a0_0 = true
 ·subst c3
  rw [if_pos rfl] at H; obtain rfl := Option.some.inj H; go_enter Try.func13, Try.ntmps13; go_wp2_with (first | ((with_reducible refine gate_dst (N := 2) rfl ?_); refine bx 2 (cs := #[.bool true, .int .i64 a0_1, .int .i64 a0_2, .int .u8 a0_3]) (t := 41) (h := ?_); intro gb269 hg w4 hbox hb; have BK269 := A_ hbox; have GW269 : Aside0 (w.heap.size ≤ gb269) := bge hg; replace HB := bst hb; clear hb hbox hg) | ((with_reducible refine gate_dst (N := 3) rfl ?_); refine bx 3 (cs := #[.bool a1_0, .int .i64 a1_1, .int .i64 a1_2, .int .u8 a1_3]) (t := 41) (h := ?_); intro gb270 hg w5 hbox hb; have BK270 := A_ hbox; have GW270 : Aside0 (w.heap.size ≤ gb270) := bge hg; have NB269_270 := bne BK269 hg; have NB270_269 := bnf BK269 hg; replace BK269 := bkb BK269 hb; replace HB := bst hb; clear hb hbox hg; have hnb6 := NB269_270.out; have hnc6 := NB270_269.out; have hcz7 := bc4 BK269; have hcz8 := bc4 BK270)); go_ret; exact ⟨eqd, bel⟩
 ·replace c3 := Bool.eq_false_iff.mpr c3
  subst c3; rw [if_neg (show ¬ (false = true) by decide)] at H; by_cases c9 : a1_0 = true
  ·subst c9
   rw [if_pos rfl] at H; obtain rfl := Option.some.inj H; go_enter Try.func13, Try.ntmps13; go_wp2_with (first | ((with_reducible refine gate_dst (N := 2) rfl ?_); refine bx 2 (cs := #[.bool false, .int .i64 a0_1, .int .i64 a0_2, .int .u8 a0_3]) (t := 41) (h := ?_); intro gb269 hg w10 hbox hb; have BK269 := A_ hbox; have GW269 : Aside0 (w.heap.size ≤ gb269) := bge hg; replace HB := bst hb; clear hb hbox hg) | ((with_reducible refine gate_dst (N := 3) rfl ?_); refine bx 3 (cs := #[.bool true, .int .i64 a1_1, .int .i64 a1_2, .int .u8 a1_3]) (t := 41) (h := ?_); intro gb270 hg w11 hbox hb; have BK270 := A_ hbox; have GW270 : Aside0 (w.heap.size ≤ gb270) := bge hg; have NB269_270 := bne BK269 hg; have NB270_269 := bnf BK269 hg; replace BK269 := bkb BK269 hb; replace HB := bst hb; clear hb hbox hg; have hnb12 := NB269_270.out; have hnc12 := NB270_269.out; have hcz13 := bc4 BK269; have hcz14 := bc4 BK270)); go_ret; exact ⟨eqd, bel⟩
  ·replace c9 := Bool.eq_false_iff.mpr c9
   subst c9; rw [if_neg (show ¬ (false = true) by decide)] at H; obtain rfl := Option.some.inj H; go_enter Try.func13, Try.ntmps13; go_wp2_with (first | ((with_reducible refine gate_dst (N := 2) rfl ?_); refine bx 2 (cs := #[.bool false, .int .i64 a0_1, .int .i64 a0_2, .int .u8 a0_3]) (t := 41) (h := ?_); intro gb269 hg w15 hbox hb; have BK269 := A_ hbox; have GW269 : Aside0 (w.heap.size ≤ gb269) := bge hg; replace HB := bst hb; clear hb hbox hg) | ((with_reducible refine gate_dst (N := 3) rfl ?_); refine bx 3 (cs := #[.bool false, .int .i64 a1_1, .int .i64 a1_2, .int .u8 a1_3]) (t := 41) (h := ?_); intro gb270 hg w16 hbox hb; have BK270 := A_ hbox; have GW270 : Aside0 (w.heap.size ≤ gb270) := bge hg; have NB269_270 := bne BK269 hg; have NB270_269 := bnf BK269 hg; replace BK269 := bkb BK269 hb; replace HB := bst hb; clear hb hbox hg; have hnb17 := NB269_270.out; have hnc17 := NB270_269.out; have hcz18 := bc4 BK269; have hcz19 := bc4 BK270)); go_ret; exact ⟨eqd, bel⟩
end Go.Proofs.Ytcagkdgpoijkoaa.PLm
end
section
namespace Go.Proofs.Ytcagkdgpoijkoaa.PLm
open Go.RowKit Go.Proofs.YtcagkdgpoijkoaaW.PrintWords Go.Proofs.YtcagkdgpoijkoaaW.PrintLast Go.Proofs.YtcagkdgpoijkoaaW.PrintMore
attribute [local go_sem] max2_int min2_int max_two min_two max_three min_three max_four min_four
set_option linter.unusedVariables false
set_option linter.unusedSimpArgs false
def toAt (x : S41) : Go.Proofs.Ytcagkdgpoijkoaa.OfP.At := ⟨x.f0, x.f1, x.f2, x.f3⟩
theorem row_at {w : World} {A : Option Addr} {n : Nat} {g : List S41} (h : Kd.C k41 w A n g) : Go.Proofs.Ytcagkdgpoijkoaa.Mq.Row Go.Proofs.Ytcagkdgpoijkoaa.OfP.atR w (· < w.heap.size) A (g.map toAt) :=
  Go.Proofs.Ytcagkdgpoijkoaa.Bridge.row_of_C (r := Go.Proofs.Ytcagkdgpoijkoaa.OfP.atR) toAt rfl (show 0 < 4 by decide) (fun x cs hx => by have h_ := k41_open hx; subst h_; rfl) h
end Go.Proofs.Ytcagkdgpoijkoaa.PLm
end
section
namespace Go.Proofs.Ytcagkdgpoijkoaa.PLm
open Go.RowKit Go.Proofs.Ytcagkdgpoijkoaa.Short Go.Proofs.YtcagkdgpoijkoaaW.PrintWords Go.Proofs.YtcagkdgpoijkoaaW.PrintLast Go.Proofs.YtcagkdgpoijkoaaW.PrintMore
attribute [local go_sem] max2_int min2_int max_two min_two max_three min_three max_four min_four
set_option linter.unusedVariables false
set_option linter.unusedSimpArgs false
def forward_Of.offs (k : Nat) (l0_0 : List Bool) (l0_1 : List Int) (l0_2 : List (List S51)) (l1 : List S41) (j : Nat) : List S41 := (stable_Offers.f k l0_0 l0_1 l0_2 l1 j).getD []
def forward_Of.ok (k : Nat) (l0_0 : List Bool) (l0_1 : List Int) (l0_2 : List (List S51)) (l1 : List S41) : Bool :=
 decide (l0_0.length ≤ 1000000000) && (List.range l0_0.length).all fun j => match stable_Offers.f k l0_0 l0_1 l0_2 l1 j with
  | some r => decide (r.length ≤ 1000000000) && decide (r.length ≤ (l0_2.getD j []).length)
  | none => false
def forward_Of.f (k : Nat) (l0_0 : List Bool) (l0_1 : List Int) (l0_2 : List (List S51)) (l1 : List S41) : Option (List (List Int)) :=
 if forward_Of.ok k l0_0 l0_1 l0_2 l1 = true then some (Go.Proofs.Ytcagkdgpoijkoaa.OfP.ofB l0_0 l0_1 (l0_2.map (·.map toEd)) (l1.map toAt) fun j => (forward_Of.offs k l0_0 l0_1 l0_2 l1 j).map toAt) else none
theorem forward_Of.ok_at {k : Nat} {l0_0 : List Bool} {l0_1 : List Int} {l0_2 : List (List S51)} {l1 : List S41} (h : forward_Of.ok k l0_0 l0_1 l0_2 l1 = true) {j : Nat} (hj : j < l0_0.length) :
  ∃ r, stable_Offers.f k l0_0 l0_1 l0_2 l1 j = some r ∧ r.length ≤ 1000000000 ∧ r.length ≤ (l0_2.getD j []).length := by
 unfold forward_Of.ok at h; simp only [Bool.and_eq_true, List.all_eq_true] at h; have h1 := h.2 j (List.mem_range.2 hj)
 cases hr : stable_Offers.f k l0_0 l0_1 l0_2 l1 j with
 | none => rw [hr] at h1; cases h1
 | some r =>
  rw [hr] at h1; simp only [Bool.and_eq_true, decide_eq_true_eq] at h1; exact ⟨r, rfl, h1.1, h1.2⟩
theorem forward_Of.mono : ∀ a0 a1 a2 a3 k, LeO (forward_Of.f k a0 a1 a2 a3) (forward_Of.f (k + 1) a0 a1 a2 a3) := by
 intro a0 a1 a2 a3 k r h; unfold forward_Of.f at h ⊢; split at h
 ·rename_i hok
  have hs : ∀ j, j < a0.length → stable_Offers.f (k + 1) a0 a1 a2 a3 j = stable_Offers.f k a0 a1 a2 a3 j := fun j hj => by
   obtain ⟨r, hr, _⟩ := forward_Of.ok_at hok hj; rw [hr]; exact stable_Offers.mono _ _ _ _ _ _ _ hr
  have hok2 : forward_Of.ok (k + 1) a0 a1 a2 a3 = true := by
   unfold forward_Of.ok at hok ⊢; simp only [Bool.and_eq_true, List.all_eq_true] at hok ⊢; refine ⟨hok.1, fun j hj => ?_⟩; rw [hs j (List.mem_range.1 hj)]; exact hok.2 j hj
  rw [if_pos hok2, ← h]; congr 1; unfold Go.Proofs.Ytcagkdgpoijkoaa.OfP.ofB Go.Proofs.Ytcagkdgpoijkoaa.OfP.ofN; (refine List.map_congr_left fun j hj => ?_); split
  ·unfold Go.Proofs.Ytcagkdgpoijkoaa.OfP.ofRow forward_Of.offs
   dsimp only; rw [hs j (List.mem_range.1 hj)]
  ·rfl
 ·cases h
theorem forward_Of.same (a b : S41) : attr_Same.f a.f0 a.f1 a.f2 a.f3 b.f0 b.f1 b.f2 b.f3 = some (Go.Proofs.Ytcagkdgpoijkoaa.OfP.sameB (toAt a) (toAt b)) := by
 unfold attr_Same.f Go.Proofs.Ytcagkdgpoijkoaa.OfP.sameB toAt; obtain ⟨a0, a1, a2, a3⟩ := a; obtain ⟨b0, b1, b2, b3⟩ := b; cases a0 <;> cases b0 <;> by_cases h1 : a1 = b1 <;> by_cases h2 : a2 = b2 <;> by_cases h3 : a3 = b3 <;> simp [h1, h2, h3]
theorem forward_Of.calls (k : Nat) (A0_0 : Option Addr) (c0_0 : Nat) (l0_0 : List Bool) (A0_1 : Option Addr) (c0_1 : Nat) (l0_1 : List Int) (A0_2 : Option Addr) (c0_2 : Nat) (l0_2 : List (List (S51))) (A1 : Option Addr) (c1 : Nat) (l1 : List (S41)) (r : List (List Int)) (w : World) (hr0_0 : Kd.C Kd.bool w A0_0 l0_0.length l0_0) (hc0_0 : l0_0.length ≤ c0_0) (hr0_1 : Kd.C (Kd.int .i64) w A0_1 l0_1.length l0_1) (hc0_1 : l0_1.length ≤ c0_1) (hr0_2 : Kd.C (Kd.slice 51 k51) w A0_2 l0_2.length l0_2) (hc0_2 : l0_2.length ≤ c0_2) (hr1 : Kd.C k41 w A1 l1.length l1) (hc1 : l1.length ≤ c1) (h : forward_Of.f k l0_0 l0_1 l0_2 l1 = some r) :
  Calls Try.prog 11 #[.agg #[.slice A0_0 l0_0.length c0_0, .slice A0_1 l0_1.length c0_1, .slice A0_2 l0_2.length c0_2], .slice A1 l1.length c1] w fun e w' => ∃ v0_ : Value, e = .returned (v0_) ∧ Kd.V (Kd.slice 3 (Kd.int .i64)) 29 w' w.heap.size (fun k_ => (w.heap.size ≤ k_)) v0_ r ∧ Below w.heap.size w w' := by
 unfold forward_Of.f at h; split at h
 ·rename_i hok
  have h := Option.some.inj h
  have hol : l0_0.length ≤ 1000000000 := by
   unfold forward_Of.ok at hok; simp only [Bool.and_eq_true, decide_eq_true_eq] at hok; exact hok.1
  have hoc := Go.Proofs.Ytcagkdgpoijkoaa.Of.of_calls (c0 := c0_0) (c1 := c0_1) (c2 := c0_2) (cL := c1) (Go.Proofs.Ytcagkdgpoijkoaa.Bridge.row_bool hr0_0) (by simpa using Go.Proofs.Ytcagkdgpoijkoaa.Bridge.row_of_C (r := Go.Proofs.Ytcagkdgpoijkoaa.Mq.int .i64) (fun x : Int => x) rfl (show 0 < 1 by decide) (fun x cs hx => hx) hr0_1) (rows_ed hr0_2) (row_at hr1) hol (fun j => (forward_Of.offs k l0_0 l0_1 l0_2 l1 j).map toAt)
   (fun j W hj hB => by
    obtain ⟨rj, hrj, _, _⟩ := forward_Of.ok_at hok hj; rw [List.length_map, List.length_map]; refine (stable_Offers.calls k A0_0 c0_0 l0_0 A0_1 c0_1 l0_1 A0_2 c0_2 l0_2 A1 c1 l1 j rj W (Kd.C_below hr0_0 hB) hc0_0 (Kd.C_below hr0_1 hB) hc0_1 (Kd.C_below hr0_2 hB) hc0_2 (Kd.C_below hr1 hB) hc1 hrj).mono ?_; rintro e W' ⟨v, rfl, hR, hb⟩; refine ⟨v, rfl, ?_⟩; have := Go.Proofs.Ytcagkdgpoijkoaa.Bridge.own_of_R (r := Go.Proofs.Ytcagkdgpoijkoaa.OfP.atR) toAt rfl (fun W b ok x cs hx S => by have h_ := k41_openM hx; subst h_; rfl) hR hb; unfold forward_Of.offs; rw [hrj]
    exact this)
   (fun j hj => by
    obtain ⟨rj, hrj, _, h2⟩ := forward_Of.ok_at hok hj; unfold forward_Of.offs; rw [hrj, List.length_map]; refine Nat.le_trans h2 (Nat.le_of_eq ?_); simp only [List.getD_eq_getElem?_getD, List.getElem?_map]
    cases l0_2[j]? <;> simp)
   (fun j hj => by
    obtain ⟨rj, hrj, h1, _⟩ := forward_Of.ok_at hok hj; unfold forward_Of.offs; rw [hrj, List.length_map]
    exact h1)
   (fun a b W => by
    refine (attr_Same.calls a.ok a.pref a.cost a.tags b.ok b.pref b.cost b.tags _ W (forward_Of.same ⟨a.ok, a.pref, a.cost, a.tags⟩ ⟨b.ok, b.pref, b.cost, b.tags⟩)).mono ?_; rintro e W' ⟨rfl, hb⟩
    exact ⟨rfl, Go.Proofs.Ytcagkdgpoijkoaa.Mq.mem_of_below hb⟩)
  rw [List.length_map, List.length_map] at hoc; refine hoc.mono ?_; rintro e w' ⟨v, rfl, H⟩; have hV := Go.Proofs.Ytcagkdgpoijkoaa.Bridge.V_of_own (d := Kd.slice 3 (Kd.int .i64)) (fun x : List Int => x) 29 w.heap.size rfl (show 0 < 1 by decide) (fun w S y cs hk => by simpa using Go.Proofs.Ytcagkdgpoijkoaa.Bridge.K_slice_back (d := Kd.int .i64) (r := Go.Proofs.Ytcagkdgpoijkoaa.Mq.int .i64) (fun x : Int => x) rfl (fun y cs hk => hk) y cs hk) H; rw [h, List.map_id'] at hV; exact ⟨v, rfl, hV, H.below⟩
 ·cases h
def stable_Fixed.f (l0_0 : List Bool) (l0_1 : List Int) (l0_2 : List (List (S51))) (a1 : Int) : Option (Bool) := if a1 ≥ 0 then (if a1 < (l0_0.length : Int) then (if 0 ≤ a1 then (if rdOf false l0_0 a1 = true then (some true) else (if a1 < (l0_1.length : Int) then (some (decide ((rd l0_1 a1) ≥ 0))) else (some false))) else (none)) else (some false)) else (some false)
set_option maxHeartbeats 8000000 in
set_option maxRecDepth 100000 in
theorem stable_Fixed.calls (A0_0 : Option Addr) (c0_0 : Nat) (l0_0 : List Bool) (A0_1 : Option Addr) (c0_1 : Nat) (l0_1 : List Int) (A0_2 : Option Addr) (c0_2 : Nat) (l0_2 : List (List (S51))) (a1 : Int) (r : Bool) (w : World) (hr0_0 : Kd.C Kd.bool w A0_0 l0_0.length l0_0) (hc0_0 : l0_0.length ≤ c0_0) (hr0_1 : Kd.C (Kd.int .i64) w A0_1 l0_1.length l0_1) (hc0_1 : l0_1.length ≤ c0_1) (hr0_2 : Kd.C (Kd.slice 51 k51) w A0_2 l0_2.length l0_2) (hc0_2 : l0_2.length ≤ c0_2) (h : stable_Fixed.f l0_0 l0_1 l0_2 a1 = some r) :
  Calls Try.prog 24 #[.agg #[.slice A0_0 l0_0.length c0_0, .slice A0_1 l0_1.length c0_1, .slice A0_2 l0_2.length c0_2], .int .i64 a1] w fun e w' => e = .returned (.bool r) ∧ Below w.heap.size w w' := by
 have hu32 := Try.underlying32; have HR0_0 := A_ hr0_0; have HC0_0 := A_ hc0_0; clear hr0_0 hc0_0; have HR0_1 := A_ hr0_1; have HC0_1 := A_ hc0_1; clear hr0_1 hc0_1; have HR0_2 := A_ hr0_2; have HC0_2 := A_ hc0_2; clear hr0_2 hc0_2; have HB := A_ (Below.refl w.heap.size w); unfold stable_Fixed.f at h; have H := h; clear h; by_cases c3 : a1 ≥ 0
 ·rw [if_pos c3] at H
  have c3b0 : decide (0 ≤ a1) = true := decide_eq_true c3; clear c3; by_cases c4 : a1 < (l0_0.length : Int)
  ·rw [if_pos c4] at H
   have c4b0 := decide_eq_true c4; clear c4; by_cases c5 : 0 ≤ a1
   ·rw [if_pos c5] at H
    have c5b0 := decide_eq_true c5; clear c5; obtain ⟨bq6, hbq6⟩ : ∃ b_ : Bool, b_ = (rdOf false l0_0 a1) := ⟨_, rfl⟩; (replace H : (if bq6 = true then (some true) else (if a1 < (l0_1.length : Int) then (some (decide ((rd l0_1 a1) ≥ 0))) else (some false))) = some r := by rw [← hbq6] at H; exact H); have Nbq6 := A_ hbq6; clear hbq6; by_cases c7 : bq6 = true
    ·subst c7
     rw [if_pos rfl] at H; obtain rfl := Option.some.inj H; go_enter Try.func24, Try.ntmps24; go_wp2_with (first | ((with_reducible refine gate_dst (N := 2) rfl ?_); (try (refine gate_guard (by rfl) ?_; dsimp only)); refine bx 2 (cs := #[.slice A0_0 l0_0.length c0_0, .slice A0_1 l0_1.length c0_1, .slice A0_2 l0_2.length c0_2]) (t := 32) (h := ?_); intro gb244 hg w8 hbox hb; have BK244 := A_ hbox; have GW244 : Aside0 (w.heap.size ≤ gb244) := bge hg; replace HB := bst hb; clear hb hbox hg; have hcz9 := bc3 BK244; have p245 : 0 ≤ (a1 : Int) := odt; have q245 : a1 < (l0_0.length : Int) := odt; obtain ⟨ad245, e245, hx245_0⟩ := Kd.at_bool HR0_0.out a1 p245 q245; (try rw [← Nbq6.out] at hx245_0); cases e245; replace hx245_0 := hbc HB hx245_0; replace p245 := eq_true p245; replace q245 := eq_true q245)); go_ret; exact ⟨eqd, bel⟩
    ·replace c7 := Bool.eq_false_iff.mpr c7
     subst c7; rw [if_neg (show ¬ (false = true) by decide)] at H; by_cases c10 : a1 < (l0_1.length : Int)
     ·rw [if_pos c10] at H
      have c10b0 := decide_eq_true c10; clear c10; obtain rfl := Option.some.inj H; go_enter Try.func24, Try.ntmps24; go_wp2_with (first | ((with_reducible refine gate_dst (N := 2) rfl ?_); (try (refine gate_guard (by rfl) ?_; dsimp only)); refine bx 2 (cs := #[.slice A0_0 l0_0.length c0_0, .slice A0_1 l0_1.length c0_1, .slice A0_2 l0_2.length c0_2]) (t := 32) (h := ?_); intro gb244 hg w11 hbox hb; have BK244 := A_ hbox; have GW244 : Aside0 (w.heap.size ≤ gb244) := bge hg; replace HB := bst hb; clear hb hbox hg; have hcz12 := bc3 BK244; have p245 : 0 ≤ (a1 : Int) := odt; have q245 : a1 < (l0_0.length : Int) := odt; obtain ⟨ad245, e245, hx245_0⟩ := Kd.at_bool HR0_0.out a1 p245 q245; (try rw [← Nbq6.out] at hx245_0); cases e245; replace hx245_0 := hbc HB hx245_0; replace p245 := eq_true p245; replace q245 := eq_true q245; have p246 : 0 ≤ (a1 : Int) := odt; have q246 : a1 < (l0_1.length : Int) := odt; obtain ⟨ad246, e246, hx246_0⟩ := Kd.at_int HR0_1.out a1 p246 q246; cases e246; replace hx246_0 := hbc HB hx246_0; replace p246 := eq_true p246; replace q246 := eq_true q246)); go_ret; exact ⟨eqd, bel⟩
     ·rw [if_neg c10] at H
      have c10b0 := decide_eq_false c10; clear c10; obtain rfl := Option.some.inj H; go_enter Try.func24, Try.ntmps24; go_wp2_with (first | ((with_reducible refine gate_dst (N := 2) rfl ?_); (try (refine gate_guard (by rfl) ?_; dsimp only)); refine bx 2 (cs := #[.slice A0_0 l0_0.length c0_0, .slice A0_1 l0_1.length c0_1, .slice A0_2 l0_2.length c0_2]) (t := 32) (h := ?_); intro gb244 hg w13 hbox hb; have BK244 := A_ hbox; have GW244 : Aside0 (w.heap.size ≤ gb244) := bge hg; replace HB := bst hb; clear hb hbox hg; have hcz14 := bc3 BK244; have p245 : 0 ≤ (a1 : Int) := odt; have q245 : a1 < (l0_0.length : Int) := odt; obtain ⟨ad245, e245, hx245_0⟩ := Kd.at_bool HR0_0.out a1 p245 q245; (try rw [← Nbq6.out] at hx245_0); cases e245; replace hx245_0 := hbc HB hx245_0; replace p245 := eq_true p245; replace q245 := eq_true q245)); go_ret; exact ⟨eqd, bel⟩
   ·rw [if_neg c5] at H
    exact absurd H (by simp)
  ·rw [if_neg c4] at H
   have c4b0 := decide_eq_false c4; clear c4; obtain rfl := Option.some.inj H; go_enter Try.func24, Try.ntmps24; go_wp2_with (first | ((with_reducible refine gate_dst (N := 2) rfl ?_); (try (refine gate_guard (by rfl) ?_; dsimp only)); refine bx 2 (cs := #[.slice A0_0 l0_0.length c0_0, .slice A0_1 l0_1.length c0_1, .slice A0_2 l0_2.length c0_2]) (t := 32) (h := ?_); intro gb244 hg w15 hbox hb; have BK244 := A_ hbox; have GW244 : Aside0 (w.heap.size ≤ gb244) := bge hg; replace HB := bst hb; clear hb hbox hg; have hcz16 := bc3 BK244)); go_ret; exact ⟨eqd, bel⟩
 ·rw [if_neg c3] at H
  have c3b0 : decide (0 ≤ a1) = false := decide_eq_false c3; clear c3; obtain rfl := Option.some.inj H; go_enter Try.func24, Try.ntmps24; go_wp2_with (first | ((with_reducible refine gate_dst (N := 2) rfl ?_); (try (refine gate_guard (by rfl) ?_; dsimp only)); refine bx 2 (cs := #[.slice A0_0 l0_0.length c0_0, .slice A0_1 l0_1.length c0_1, .slice A0_2 l0_2.length c0_2]) (t := 32) (h := ?_); intro gb244 hg w17 hbox hb; have BK244 := A_ hbox; have GW244 : Aside0 (w.heap.size ≤ gb244) := bge hg; replace HB := bst hb; clear hb hbox hg)); go_ret; exact ⟨eqd, bel⟩
def attr_Origin.f  : Option (Bool × Int × Int × Int) := some (true, 100, 0, 0)
set_option maxHeartbeats 8000000 in
set_option maxRecDepth 100000 in
theorem attr_Origin.calls  (r1 : Bool) (r2 : Int) (r3 : Int) (r4 : Int) (w : World) (h : attr_Origin.f  = some (r1, r2, r3, r4)) :
  Calls Try.prog 25 #[] w fun e w' => e = .returned (.agg #[.bool r1, .int .i64 r2, .int .i64 r3, .int .u8 r4]) ∧ Below w.heap.size w w' := by
 have hu41 := Try.underlying41; have HB := A_ (Below.refl w.heap.size w); unfold attr_Origin.f at h; have H := h; clear h; simp only [Option.some.injEq, Prod.mk.injEq] at H; obtain ⟨rfl, rfl, rfl, rfl⟩ := H; go_enter Try.func25, Try.ntmps25; go_wp2_with (first | ((with_reducible refine gate_dst (N := 0) rfl ?_); refine bx 0 (cs := #[.bool false, .int .i64 0, .int .i64 0, .int .u8 0]) (t := 41) (h := ?_); intro gb247 hg w1 hbox hb; have BK247 := A_ hbox; have GW247 : Aside0 (w.heap.size ≤ gb247) := bge hg; replace HB := bst hb; clear hb hbox hg; have hcz2 := bc4 BK247)); refine bodyPost_ret (results_cell_row rfl _ _ gb247 41 #[.bool true, .int .i64 100, .int .i64 0, .int .u8 0] (0, 0) _ rfl (bkp BK247) Try.underlying41 rfl (by kernel_rfl)) rfl ?_; exact ⟨eqd, bel⟩
def attr_Better.j0 : Nat → Bool → Bool → Int → Int → Int → Bool → Int → Int → Int → Option (Bool)
 | 0, _, _, _, _, _, _, _, _, _ => none
 | k + 1, x5, x249000, x249001, x249002, x249003, x250000, x250001, x250002, x250003 => if x5 = true then (if x249000 = true then (some (!x250000)) else (some false)) else (if x249001 = x250001 then (if x249002 = x250002 then (some (decide (x249003 < x250003))) else (some (decide (x249002 < x250002)))) else (some (decide (x249001 > x250001))))
def attr_Better.f (k : Nat) (a0_0 : Bool) (a0_1 : Int) (a0_2 : Int) (a0_3 : Int) (a1_0 : Bool) (a1_1 : Int) (a1_2 : Int) (a1_3 : Int) : Option (Bool) := if a0_0 = true then (attr_Better.j0 k (!a1_0) a0_0 a0_1 a0_2 a0_3 a1_0 a1_1 a1_2 a1_3) else (attr_Better.j0 k true a0_0 a0_1 a0_2 a0_3 a1_0 a1_1 a1_2 a1_3)
theorem attr_Better.mono_l : ∀ k, (∀ y0 y1 y2 y3 y4 y5 y6 y7 y8, LeO (attr_Better.j0 k y0 y1 y2 y3 y4 y5 y6 y7 y8) (attr_Better.j0 (k + 1) y0 y1 y2 y3 y4 y5 y6 y7 y8))
 | 0 => fun _ _ _ _ _ _ _ _ _ r h => by simp [attr_Better.j0] at h
 | k + 1 => by
  have ih0 := attr_Better.mono_l k
  ·intro y0 y1 y2 y3 y4 y5 y6 y7 y8
   unfold attr_Better.j0; repeat' first
   | (with_reducible exact ih0 _ _ _ _ _ _ _ _ _)
   | (with_reducible exact LeO.refl _)
   | (with_reducible exact LeO.none _)
   | (with_reducible refine LeO.ite ?_ ?_)
   | (with_reducible refine LeO.bind ?_ (fun _ => ?_))
   | exact ih0 _ _ _ _ _ _ _ _ _
   | exact LeO.none _
   | refine LeO.ite ?_ ?_
   | refine LeO.bind ?_ (fun _ => ?_)
theorem attr_Better.mono : ∀ a0 a1 a2 a3 a4 a5 a6 a7 k, LeO (attr_Better.f k a0 a1 a2 a3 a4 a5 a6 a7) (attr_Better.f (k + 1) a0 a1 a2 a3 a4 a5 a6 a7) := by
 intro a0 a1 a2 a3 a4 a5 a6 a7 k; have ih0 := attr_Better.mono_l k; unfold attr_Better.f
 repeat' first
   | (with_reducible exact ih0 _ _ _ _ _ _ _ _ _)
   | (with_reducible exact LeO.refl _)
   | (with_reducible exact LeO.none _)
   | (with_reducible refine LeO.ite ?_ ?_)
   | (with_reducible refine LeO.bind ?_ (fun _ => ?_))
   | exact ih0 _ _ _ _ _ _ _ _ _
   | exact LeO.none _
   | refine LeO.ite ?_ ?_
   | refine LeO.bind ?_ (fun _ => ?_)
set_option maxHeartbeats 8000000 in
set_option maxRecDepth 100000 in
theorem attr_Better.calls (k : Nat) (a0_0 : Bool) (a0_1 : Int) (a0_2 : Int) (a0_3 : Int) (a1_0 : Bool) (a1_1 : Int) (a1_2 : Int) (a1_3 : Int) (r : Bool) (w : World) (h : attr_Better.f k a0_0 a0_1 a0_2 a0_3 a1_0 a1_1 a1_2 a1_3 = some r) :
  Calls Try.prog 43 #[.agg #[.bool a0_0, .int .i64 a0_1, .int .i64 a0_2, .int .u8 a0_3], .agg #[.bool a1_0, .int .i64 a1_1, .int .i64 a1_2, .int .u8 a1_3]] w fun e w' => e = .returned (.bool r) ∧ Below w.heap.size w w' := by
 have hu41 := Try.underlying41; have HB := A_ (Below.refl w.heap.size w); unfold attr_Better.f at h; have H := h; clear h; have HC3 := A_ H; clear H; go_enter Try.func43, Try.ntmps43; go_upto_region 1 with (first | ((with_reducible refine gate_dst (N := 2) rfl ?_); refine bx 2 (cs := #[.bool a0_0, .int .i64 a0_1, .int .i64 a0_2, .int .u8 a0_3]) (t := 41) (h := ?_); intro gb248 hg w4 hbox hb; have BK248 := A_ hbox; have GW248 : Aside0 (w.heap.size ≤ gb248) := bge hg; replace HB := bst hb; clear hb hbox hg) | ((with_reducible refine gate_dst (N := 3) rfl ?_); refine bx 3 (cs := #[.bool a1_0, .int .i64 a1_1, .int .i64 a1_2, .int .u8 a1_3]) (t := 41) (h := ?_); intro gb249 hg w5 hbox hb; have BK249 := A_ hbox; have GW249 : Aside0 (w.heap.size ≤ gb249) := bge hg; have NB248_249 := bne BK248 hg; have NB249_248 := bnf BK248 hg; replace BK248 := bkb BK248 hb; replace HB := bst hb; clear hb hbox hg)); (try simp only [Act.put, List.setIfInBounds_toArray, List.set_cons_zero, List.set_cons_succ]); go_cut [5] (fun v5 wc => ∃ (kq : Nat) (x5_2 : Bool), v5 = .bool x5_2 ∧ Aside0 (attr_Better.j0 kq x5_2 a0_0 a0_1 a0_2 a0_3 a1_0 a1_1 a1_2 a1_3 = some r) ∧ Aside0 (kq ≤ k) ∧ Aside0 (wc.heap[gb248]? = some (.cells #[.bool a0_0, .int .i64 a0_1, .int .i64 a0_2, .int .u8 a0_3] 41 (0, 0))) ∧ Aside0 (wc.heap[gb249]? = some (.cells #[.bool a1_0, .int .i64 a1_1, .int .i64 a1_2, .int .u8 a1_3] 41 (0, 0))) ∧ Aside0 (Below w.heap.size w wc))
 case first =>
  have H := HC3.out; clear HC3; by_cases c6 : a0_0 = true
  ·subst c6
   rw [if_pos rfl] at H; have H' := A_ H; clear H; have hnb7 := NB248_249.out; have hnc7 := NB249_248.out; have hcz8 := bc4 BK248; have hcz9 := bc4 BK249; go_wp2; go_meet
   case rel => exact ⟨_, (!a1_0), eqs, H', ⟨by first | omega | exact Nat.le_refl _⟩, ⟨bkq BK248⟩, ⟨bkq BK249⟩, ⟨bel⟩⟩
  ·replace c6 := Bool.eq_false_iff.mpr c6
   subst c6; rw [if_neg (show ¬ (false = true) by decide)] at H; have H' := A_ H; clear H; have hnb10 := NB248_249.out; have hnc10 := NB249_248.out; have hcz11 := bc4 BK248; go_wp2; go_meet
   case rel => exact ⟨_, (true), eqs, H', ⟨by first | omega | exact Nat.le_refl _⟩, ⟨bkq BK248⟩, ⟨bkq BK249⟩, ⟨bel⟩⟩
 case rest =>
  clear HC3; (try clear c1); (try clear p2); (try clear c4); (try clear c6); (try clear c7); (try clear c10); (try clear hcz11); (try clear hcz8); (try clear hcz9); obtain ⟨kq, x5_2, rfl, HA, HJ2, BK248, BK249, HB⟩ := hcut
  cases kq with
  | zero => exact absurd HA.out (by simp [attr_Better.j0])
  | succ kj2 =>
   have H := HA.out; clear HA; simp only [attr_Better.j0] at H; by_cases c12 : x5_2 = true
   ·subst c12
    rw [if_pos rfl] at H; by_cases c13 : a0_0 = true
    ·subst c13
     rw [if_pos rfl] at H; obtain rfl := Option.some.inj H; have hnb14 := NB248_249.out; have hnc14 := NB249_248.out; have hcz15 := bc4 BK248; have hcz16 := bc4 BK249; go_wp2; go_ret; exact ⟨eqd, bel⟩
    ·replace c13 := Bool.eq_false_iff.mpr c13
     subst c13; rw [if_neg (show ¬ (false = true) by decide)] at H; obtain rfl := Option.some.inj H; have hnb17 := NB248_249.out; have hnc17 := NB249_248.out; have hcz18 := bc4 BK248; go_wp2; go_ret; exact ⟨eqd, bel⟩
   ·replace c12 := Bool.eq_false_iff.mpr c12
    subst c12; rw [if_neg (show ¬ (false = true) by decide)] at H; by_cases c19 : a0_1 = a1_1
    ·rw [if_pos c19] at H
     have c19b0 : (a0_1 == a1_1) = true := beq_iff_eq.mpr c19; have c19b1 : (a0_1 != a1_1) = false := bne_eq_false_iff_eq.mpr c19; clear c19; by_cases c20 : a0_2 = a1_2
     ·rw [if_pos c20] at H
      have c20b0 : (a0_2 == a1_2) = true := beq_iff_eq.mpr c20; have c20b1 : (a0_2 != a1_2) = false := bne_eq_false_iff_eq.mpr c20; clear c20; obtain rfl := Option.some.inj H; have hnb21 := NB248_249.out; have hnc21 := NB249_248.out; have hcz22 := bc4 BK248; have hcz23 := bc4 BK249; go_wp2; go_ret; exact ⟨eqd, bel⟩
     ·rw [if_neg c20] at H
      have c20b0 : (a0_2 == a1_2) = false := beq_eq_false_iff_ne.mpr c20; have c20b1 : (a0_2 != a1_2) = true := bne_iff_ne.mpr c20; obtain rfl := Option.some.inj H; have hnb24 := NB248_249.out; have hnc24 := NB249_248.out; have hcz25 := bc4 BK248; have hcz26 := bc4 BK249; go_wp2; go_ret; exact ⟨eqd, bel⟩
    ·rw [if_neg c19] at H
     have c19b0 : (a0_1 == a1_1) = false := beq_eq_false_iff_ne.mpr c19; have c19b1 : (a0_1 != a1_1) = true := bne_iff_ne.mpr c19; obtain rfl := Option.some.inj H; have hnb27 := NB248_249.out; have hnc27 := NB249_248.out; have hcz28 := bc4 BK248; have hcz29 := bc4 BK249; go_wp2; go_ret; exact ⟨eqd, bel⟩
def attr_Best.l0 : Nat → List (S41) → Int → Int → Bool → Int → Int → Int → Option (Bool × Int × Int × Int)
 | 0, _, _, _, _, _, _, _ => none
 | k + 1, x6, x7, x8, x252000, x252001, x252002, x252003 => if x8 < x7 then (if 0 ≤ x8 then (if x8 < (x6.length : Int) then ((attr_Better.f k ((rd_T41 x6 x8).f0) ((rd_T41 x6 x8).f1) ((rd_T41 x6 x8).f2) ((rd_T41 x6 x8).f3) x252000 x252001 x252002 x252003).bind fun t254 => (if t254 = true then (attr_Best.l0 k x6 x7 (wrap64 (x8 + 1)) ((rd_T41 x6 x8).f0) ((rd_T41 x6 x8).f1) ((rd_T41 x6 x8).f2) ((rd_T41 x6 x8).f3)) else (attr_Best.l0 k x6 x7 (wrap64 (x8 + 1)) x252000 x252001 x252002 x252003))) else (none)) else (none)) else (some (x252000, x252001, x252002, x252003))
def attr_Best.f (k : Nat) (l0 : List (S41)) : Option (Bool × Int × Int × Int) := attr_Best.l0 k l0 (l0.length : Int) 0 false 0 0 0
theorem attr_Best.mono_l : ∀ k, (∀ y0 y1 y2 y3 y4 y5 y6, LeO (attr_Best.l0 k y0 y1 y2 y3 y4 y5 y6) (attr_Best.l0 (k + 1) y0 y1 y2 y3 y4 y5 y6))
 | 0 => fun _ _ _ _ _ _ _ r h => by simp [attr_Best.l0] at h
 | k + 1 => by
  have ih0 := attr_Best.mono_l k
  ·intro y0 y1 y2 y3 y4 y5 y6
   unfold attr_Best.l0; repeat' first
   | (with_reducible exact ih0 _ _ _ _ _ _ _)
   | (with_reducible exact attr_Better.mono _ _ _ _ _ _ _ _ _)
   | (with_reducible exact LeO.refl _)
   | (with_reducible exact LeO.none _)
   | (with_reducible refine LeO.ite ?_ ?_)
   | (with_reducible refine LeO.bind ?_ (fun _ => ?_))
   | exact ih0 _ _ _ _ _ _ _
   | exact attr_Better.mono _ _ _ _ _ _ _ _ _
   | exact LeO.none _
   | refine LeO.ite ?_ ?_
   | refine LeO.bind ?_ (fun _ => ?_)
theorem attr_Best.mono : ∀ a0 k, LeO (attr_Best.f k a0) (attr_Best.f (k + 1) a0) := by
 intro a0 k; have ih0 := attr_Best.mono_l k; unfold attr_Best.f
 repeat' first
   | (with_reducible exact ih0 _ _ _ _ _ _ _)
   | (with_reducible exact attr_Better.mono _ _ _ _ _ _ _ _ _)
   | (with_reducible exact LeO.refl _)
   | (with_reducible exact LeO.none _)
   | (with_reducible refine LeO.ite ?_ ?_)
   | (with_reducible refine LeO.bind ?_ (fun _ => ?_))
   | exact ih0 _ _ _ _ _ _ _
   | exact attr_Better.mono _ _ _ _ _ _ _ _ _
   | exact LeO.none _
   | refine LeO.ite ?_ ?_
   | refine LeO.bind ?_ (fun _ => ?_)
set_option maxHeartbeats 8000000 in
set_option maxRecDepth 100000 in
theorem attr_Best.calls (k : Nat) (A0 : Option Addr) (c0 : Nat) (l0 : List (S41)) (r1 : Bool) (r2 : Int) (r3 : Int) (r4 : Int) (w : World) (hr0 : Kd.C k41 w A0 l0.length l0) (hc0 : l0.length ≤ c0) (h : attr_Best.f k l0 = some (r1, r2, r3, r4)) :
  Calls Try.prog 26 #[.slice A0 l0.length c0] w fun e w' => e = .returned (.agg #[.bool r1, .int .i64 r2, .int .i64 r3, .int .u8 r4]) ∧ Below w.heap.size w w' := by
 have hu41 := Try.underlying41; have HR0 := A_ hr0; have HC0 := A_ hc0; clear hr0 hc0; have HB := A_ (Below.refl w.heap.size w); unfold attr_Best.f at h; have H := h; clear h; have H' := A_ H; clear H; go_enter Try.func26, Try.ntmps26; go_wp2_with (first | ((with_reducible refine gate_dst (N := 2) rfl ?_); refine bx 2 (cs := #[.bool false, .int .i64 0, .int .i64 0, .int .u8 0]) (t := 41) (h := ?_); intro gb250 hg w2 hbox hb; have BK250 := A_ hbox; have GW250 : Aside0 (w.heap.size ≤ gb250) := bge hg; replace HB := bst hb; clear hb hbox hg) | ((with_reducible refine gate_dst (N := 3) rfl ?_); refine bx 3 (cs := #[.bool false, .int .i64 0, .int .i64 0, .int .u8 0]) (t := 41) (h := ?_); intro gb251 hg w3 hbox hb; have BK251 := A_ hbox; have GW251 : Aside0 (w.heap.size ≤ gb251) := bge hg; have NB250_251 := bne BK250 hg; have NB251_250 := bnf BK250 hg; replace BK250 := bkb BK250 hb; replace HB := bst hb; clear hb hbox hg)); go_loopg [8] k (fun kq v8 w' => ∃ (x8_1 : Int) (x252000_1 : Bool) (x252001_1 : Int) (x252002_1 : Int) (x252003_1 : Int), v8 = .int .i64 x8_1 ∧ Aside0 (attr_Best.l0 kq l0 (l0.length : Int) x8_1 x252000_1 x252001_1 x252002_1 x252003_1 = some (r1, r2, r3, r4)) ∧ Aside0 (kq ≤ k) ∧ Aside0 (w'.heap[gb250]? = some (.cells #[.bool false, .int .i64 0, .int .i64 0, .int .u8 0] 41 (0, 0))) ∧ Aside0 (w'.heap[gb251]? = some (.cells #[.bool x252000_1, .int .i64 x252001_1, .int .i64 x252002_1, .int .u8 x252003_1] 41 (0, 0))) ∧ Aside0 (Below w.heap.size w w'))
 case atStart => exact ⟨(0), (false), (0), (0), (0), eqs, H', ⟨Nat.le_refl _⟩, ⟨bkq BK250⟩, ⟨bkq BK251⟩, ⟨bel⟩⟩
 case round =>
  clear H'; (try clear c2); (try clear p2); obtain ⟨x8_1, x252000_1, x252001_1, x252002_1, x252003_1, rfl, HA, HK1, BK250, BK251, HB⟩ := hrel
  cases gk with
  | zero => exact absurd HA.out (by simp [attr_Best.l0])
  | succ k1 =>
   have H := HA.out; clear HA; simp only [attr_Best.l0] at H; by_cases c4 : x8_1 < (l0.length : Int)
   ·rw [if_pos c4] at H
    have c4b0 := decide_eq_true c4; clear c4; by_cases c5 : 0 ≤ x8_1
    ·rw [if_pos c5] at H
     have c5b0 := decide_eq_true c5; clear c5; by_cases c6 : x8_1 < (l0.length : Int)
     ·rw [if_pos c6] at H
      have c6b0 := decide_eq_true c6; clear c6; replace H := Option.bind_eq_some_iff.mp H; obtain ⟨t254, A70, H⟩ := H; have A7 := A_ A70; clear A70; by_cases c8 : t254 = true
      ·subst c8
       rw [if_pos rfl] at H; have H' := A_ H; clear H; have p252 : 0 ≤ (x8_1 : Int) := odt; have q252 : x8_1 < (l0.length : Int) := odt; obtain ⟨ad252, e252, hx252_0, hx252_1, hx252_2, hx252_3⟩ := at_T41 HR0.out x8_1 p252 q252; cases e252; replace hx252_0 := hbc HB hx252_0; replace hx252_1 := hbc HB hx252_1; replace hx252_2 := hbc HB hx252_2; replace hx252_3 := hbc HB hx252_3; replace p252 := eq_true p252; replace q252 := eq_true q252; go_wp2_with (first | ((with_reducible refine gate_dst (N := 5) rfl ?_); refine bx 5 (cs := #[.bool false, .int .i64 0, .int .i64 0, .int .u8 0]) (t := 41) (h := ?_); intro gb253 hg w9 hbox hb; have BK253 := A_ hbox; have GW253 : Aside0 (w.heap.size ≤ gb253) := bge hg; have NB250_253 := bne BK250 hg; have NB253_250 := bnf BK250 hg; have NB251_253 := bne BK251 hg; have NB253_251 := bnf BK251 hg; replace BK250 := bkb BK250 hb; replace BK251 := bkb BK251 hb; replace HB := bst hb; clear hb hbox hg; have hnb10 := NB253_250.out; have hnc10 := NB250_253.out; have hnb11 := NB253_251.out; have hnc11 := NB251_253.out; have hcz12 := bc4 BK253; have hnb13 := NB251_250.out; have hnc13 := NB250_251.out; have hcz14 := bc4 BK251) | ((with_reducible refine gate_dst (N := 14) rfl ?_); refine gl (some 14) Try.func43 #[.agg #[.bool ((rd_T41 l0 x8_1).f0), .int .i64 ((rd_T41 l0 x8_1).f1), .int .i64 ((rd_T41 l0 x8_1).f2), .int .u8 ((rd_T41 l0 x8_1).f3)], .agg #[.bool x252000_1, .int .i64 x252001_1, .int .i64 x252002_1, .int .u8 x252003_1]] ?_; (with_reducible refine (attr_Better.calls k1 ((rd_T41 l0 x8_1).f0) ((rd_T41 l0 x8_1).f1) ((rd_T41 l0 x8_1).f2) ((rd_T41 l0 x8_1).f3) x252000_1 x252001_1 x252002_1 x252003_1 true _ A7.out).mono ?_); rintro e w15 ⟨rfl, hb⟩; refine ⟨_, rfl, ?_⟩; replace BK250 := bkb BK250 hb; replace BK251 := bkb BK251 hb; replace BK253 := A_ (blk_below (g := gb253) (o := .cells #[.bool ((rd_T41 l0 x8_1).f0), .int .i64 ((rd_T41 l0 x8_1).f1), .int .i64 ((rd_T41 l0 x8_1).f2), .int .u8 ((rd_T41 l0 x8_1).f3)] 41 (0, 0)) (bkp BK253) hb); replace HB := bst hb; (try clear hb); have hcz16 := bc4 BK253; have hcz17 := bc4 BK251)); go_roundg k1
       case measure => have := HK1.out; omega
       case rel => exact ⟨(wrap64 (x8_1 + 1)), ((rd_T41 l0 x8_1).f0), ((rd_T41 l0 x8_1).f1), ((rd_T41 l0 x8_1).f2), ((rd_T41 l0 x8_1).f3), eqs, H', ⟨by have := HK1.out; omega⟩, ⟨bkq BK250⟩, ⟨bkp BK251⟩, ⟨bel⟩⟩
      ·replace c8 := Bool.eq_false_iff.mpr c8
       subst c8; rw [if_neg (show ¬ (false = true) by decide)] at H; have H' := A_ H; clear H; have p252 : 0 ≤ (x8_1 : Int) := odt; have q252 : x8_1 < (l0.length : Int) := odt; obtain ⟨ad252, e252, hx252_0, hx252_1, hx252_2, hx252_3⟩ := at_T41 HR0.out x8_1 p252 q252; cases e252; replace hx252_0 := hbc HB hx252_0; replace hx252_1 := hbc HB hx252_1; replace hx252_2 := hbc HB hx252_2; replace hx252_3 := hbc HB hx252_3; replace p252 := eq_true p252; replace q252 := eq_true q252; go_wp2_with (first | ((with_reducible refine gate_dst (N := 5) rfl ?_); refine bx 5 (cs := #[.bool false, .int .i64 0, .int .i64 0, .int .u8 0]) (t := 41) (h := ?_); intro gb253 hg w18 hbox hb; have BK253 := A_ hbox; have GW253 : Aside0 (w.heap.size ≤ gb253) := bge hg; have NB250_253 := bne BK250 hg; have NB253_250 := bnf BK250 hg; have NB251_253 := bne BK251 hg; have NB253_251 := bnf BK251 hg; replace BK250 := bkb BK250 hb; replace BK251 := bkb BK251 hb; replace HB := bst hb; clear hb hbox hg; have hnb19 := NB253_250.out; have hnc19 := NB250_253.out; have hnb20 := NB253_251.out; have hnc20 := NB251_253.out; have hcz21 := bc4 BK253; have hnb22 := NB251_250.out; have hnc22 := NB250_251.out; have hcz23 := bc4 BK251) | ((with_reducible refine gate_dst (N := 14) rfl ?_); refine gl (some 14) Try.func43 #[.agg #[.bool ((rd_T41 l0 x8_1).f0), .int .i64 ((rd_T41 l0 x8_1).f1), .int .i64 ((rd_T41 l0 x8_1).f2), .int .u8 ((rd_T41 l0 x8_1).f3)], .agg #[.bool x252000_1, .int .i64 x252001_1, .int .i64 x252002_1, .int .u8 x252003_1]] ?_; (with_reducible refine (attr_Better.calls k1 ((rd_T41 l0 x8_1).f0) ((rd_T41 l0 x8_1).f1) ((rd_T41 l0 x8_1).f2) ((rd_T41 l0 x8_1).f3) x252000_1 x252001_1 x252002_1 x252003_1 false _ A7.out).mono ?_); rintro e w24 ⟨rfl, hb⟩; refine ⟨_, rfl, ?_⟩; replace BK250 := bkb BK250 hb; replace BK251 := bkb BK251 hb; replace BK253 := A_ (blk_below (g := gb253) (o := .cells #[.bool ((rd_T41 l0 x8_1).f0), .int .i64 ((rd_T41 l0 x8_1).f1), .int .i64 ((rd_T41 l0 x8_1).f2), .int .u8 ((rd_T41 l0 x8_1).f3)] 41 (0, 0)) (bkp BK253) hb); replace HB := bst hb; (try clear hb))); go_roundg k1
       case measure => have := HK1.out; omega
       case rel => exact ⟨(wrap64 (x8_1 + 1)), (x252000_1), (x252001_1), (x252002_1), (x252003_1), eqs, H', ⟨by have := HK1.out; omega⟩, ⟨bkq BK250⟩, ⟨bkq BK251⟩, ⟨bel⟩⟩
     ·rw [if_neg c6] at H
      exact absurd H (by simp)
    ·rw [if_neg c5] at H
     exact absurd H (by simp)
   ·rw [if_neg c4] at H
    have c4b0 := decide_eq_false c4; clear c4; simp only [Option.some.injEq, Prod.mk.injEq] at H; obtain ⟨rfl, rfl, rfl, rfl⟩ := H; have hnb25 := NB251_250.out; have hnc25 := NB250_251.out; have hcz26 := bc4 BK251; have hcz27 := bc4 BK250; go_wp2; refine bodyPost_ret (results_cell_row rfl _ _ gb250 41 #[.bool x252000_1, .int .i64 x252001_1, .int .i64 x252002_1, .int .u8 x252003_1] (0, 0) _ rfl (bkp BK250) Try.underlying41 rfl (by kernel_rfl)) rfl ?_; exact ⟨eqd, bel⟩
def stable_Choice.f (k : Nat) (l0_0 : List Bool) (l0_1 : List Int) (l0_2 : List (List (S51))) (l1 : List (S41)) (a2 : Int) : Option (Bool × Int × Int × Int) := (stable_Fixed.f l0_0 l0_1 l0_2 a2).bind fun t257 => (if t257 = true then ((attr_Origin.f).bind fun bt258 => (some (bt258.1, bt258.2.1, bt258.2.2.1, bt258.2.2.2))) else ((stable_Offers.f k l0_0 l0_1 l0_2 l1 a2).bind fun t262 => ((attr_Best.f k t262).bind fun bt265 => (some (bt265.1, bt265.2.1, bt265.2.2.1, bt265.2.2.2)))))
theorem stable_Choice.mono : ∀ a0 a1 a2 a3 a4 k, LeO (stable_Choice.f k a0 a1 a2 a3 a4) (stable_Choice.f (k + 1) a0 a1 a2 a3 a4) := by
 intro a0 a1 a2 a3 a4 k; unfold stable_Choice.f
 repeat' first
   | (with_reducible exact attr_Best.mono _ _)
   | (with_reducible exact stable_Offers.mono _ _ _ _ _ _)
   | (with_reducible exact LeO.refl _)
   | (with_reducible exact LeO.none _)
   | (with_reducible refine LeO.ite ?_ ?_)
   | (with_reducible refine LeO.bind ?_ (fun _ => ?_))
   | exact attr_Best.mono _ _
   | exact stable_Offers.mono _ _ _ _ _ _
   | exact LeO.none _
   | refine LeO.ite ?_ ?_
   | refine LeO.bind ?_ (fun _ => ?_)
set_option maxHeartbeats 8000000 in
set_option maxRecDepth 100000 in
theorem stable_Choice.calls (k : Nat) (A0_0 : Option Addr) (c0_0 : Nat) (l0_0 : List Bool) (A0_1 : Option Addr) (c0_1 : Nat) (l0_1 : List Int) (A0_2 : Option Addr) (c0_2 : Nat) (l0_2 : List (List (S51))) (A1 : Option Addr) (c1 : Nat) (l1 : List (S41)) (a2 : Int) (r1 : Bool) (r2 : Int) (r3 : Int) (r4 : Int) (w : World) (hr0_0 : Kd.C Kd.bool w A0_0 l0_0.length l0_0) (hc0_0 : l0_0.length ≤ c0_0) (hr0_1 : Kd.C (Kd.int .i64) w A0_1 l0_1.length l0_1) (hc0_1 : l0_1.length ≤ c0_1) (hr0_2 : Kd.C (Kd.slice 51 k51) w A0_2 l0_2.length l0_2) (hc0_2 : l0_2.length ≤ c0_2) (hr1 : Kd.C k41 w A1 l1.length l1) (hc1 : l1.length ≤ c1) (h : stable_Choice.f k l0_0 l0_1 l0_2 l1 a2 = some (r1, r2, r3, r4)) :
  Calls Try.prog 10 #[.agg #[.slice A0_0 l0_0.length c0_0, .slice A0_1 l0_1.length c0_1, .slice A0_2 l0_2.length c0_2], .slice A1 l1.length c1, .int .i64 a2] w fun e w' => e = .returned (.agg #[.bool r1, .int .i64 r2, .int .i64 r3, .int .u8 r4]) ∧ Below w.heap.size w w' := by
 have hu32 := Try.underlying32; have hu41 := Try.underlying41; have HR0_0 := A_ hr0_0; have HC0_0 := A_ hc0_0; clear hr0_0 hc0_0; have HR0_1 := A_ hr0_1; have HC0_1 := A_ hc0_1; clear hr0_1 hc0_1; have HR0_2 := A_ hr0_2; have HC0_2 := A_ hc0_2; clear hr0_2 hc0_2; have HR1 := A_ hr1; have HC1 := A_ hc1; clear hr1 hc1; have HB := A_ (Below.refl w.heap.size w); unfold stable_Choice.f at h; have H := h; clear h; replace H := Option.bind_eq_some_iff.mp H; obtain ⟨t257, A40, H⟩ := H; have A4 := A_ A40; clear A40; by_cases c5 : t257 = true
 ·subst c5
  rw [if_pos rfl] at H; replace H := Option.bind_eq_some_iff.mp H; obtain ⟨⟨t258, t259, t260, t261⟩, A60, H⟩ := H; dsimp only at H; have A6 := A_ A60; clear A60; simp only [Option.some.injEq, Prod.mk.injEq] at H; obtain ⟨rfl, rfl, rfl, rfl⟩ := H; go_enter Try.func10, Try.ntmps10; go_wp2_with (first | ((with_reducible refine gate_dst (N := 3) rfl ?_); refine bx 3 (cs := #[.slice A0_0 l0_0.length c0_0, .slice A0_1 l0_1.length c0_1, .slice A0_2 l0_2.length c0_2]) (t := 32) (h := ?_); intro gb255 hg w7 hbox hb; have BK255 := A_ hbox; have GW255 : Aside0 (w.heap.size ≤ gb255) := bge hg; replace HB := bst hb; clear hb hbox hg) | ((with_reducible refine gate_dst (N := 6) rfl ?_); refine bx 6 (cs := #[.bool false, .int .i64 0, .int .i64 0, .int .u8 0]) (t := 41) (h := ?_); intro gb256 hg w8 hbox hb; have BK256 := A_ hbox; have GW256 : Aside0 (w.heap.size ≤ gb256) := bge hg; have NB255_256 := bne BK255 hg; have NB256_255 := bnf BK255 hg; replace BK255 := bkb BK255 hb; replace HB := bst hb; clear hb hbox hg; have hnb9 := NB255_256.out; have hnc9 := NB256_255.out; have hcz10 := bc3 BK255) | ((with_reducible refine gate_dst (N := 9) rfl ?_); refine gl (some 9) Try.func24 #[.agg #[.slice A0_0 l0_0.length c0_0, .slice A0_1 l0_1.length c0_1, .slice A0_2 l0_2.length c0_2], .int .i64 a2] ?_; (with_reducible refine (stable_Fixed.calls _ _ l0_0 _ _ l0_1 _ _ l0_2 a2 true _ ?side1 ?side2 ?side3 ?side4 ?side5 ?side6 A4.out).mono ?_); (case side1 => exact kcb HR0_0); (case side2 => exact HC0_0.out); (case side3 => exact kcb HR0_1); (case side4 => exact HC0_1.out); (case side5 => exact kcb HR0_2); (case side6 => exact HC0_2.out); rintro e w11 ⟨rfl, hb⟩; refine ⟨_, rfl, ?_⟩; replace BK255 := bkb BK255 hb; replace BK256 := bkb BK256 hb; replace HB := bst hb; (try clear hb)) | ((with_reducible refine gate_dst (N := 10) rfl ?_); refine gl (some 10) Try.func25 #[] ?_; (with_reducible refine (attr_Origin.calls  t258 t259 t260 t261 _ A6.out).mono ?_); rintro e w12 ⟨rfl, hb⟩; refine ⟨_, rfl, ?_⟩; replace BK255 := bkb BK255 hb; replace BK256 := bkb BK256 hb; replace HB := bst hb; (try clear hb); have hcz13 := bc4 BK256)); refine bodyPost_ret (results_cell_row rfl _ _ gb256 41 #[.bool t258, .int .i64 t259, .int .i64 t260, .int .u8 t261] (0, 0) _ rfl (bkp BK256) Try.underlying41 rfl (by kernel_rfl)) rfl ?_; exact ⟨eqd, bel⟩
 ·replace c5 := Bool.eq_false_iff.mpr c5
  subst c5; rw [if_neg (show ¬ (false = true) by decide)] at H; replace H := Option.bind_eq_some_iff.mp H; obtain ⟨t262, A140, H⟩ := H; have A14 := A_ A140; clear A140; replace H := Option.bind_eq_some_iff.mp H; obtain ⟨⟨t265, t266, t267, t268⟩, A150, H⟩ := H; dsimp only at H; have A15 := A_ A150; clear A150; simp only [Option.some.injEq, Prod.mk.injEq] at H; obtain ⟨rfl, rfl, rfl, rfl⟩ := H; go_enter Try.func10, Try.ntmps10
  go_wp2_with (first | ((with_reducible refine gate_dst (N := 3) rfl ?_); refine bx 3 (cs := #[.slice A0_0 l0_0.length c0_0, .slice A0_1 l0_1.length c0_1, .slice A0_2 l0_2.length c0_2]) (t := 32) (h := ?_); intro gb255 hg w16 hbox hb; have BK255 := A_ hbox; have GW255 : Aside0 (w.heap.size ≤ gb255) := bge hg; replace HB := bst hb; clear hb hbox hg) | ((with_reducible refine gate_dst (N := 6) rfl ?_); refine bx 6 (cs := #[.bool false, .int .i64 0, .int .i64 0, .int .u8 0]) (t := 41) (h := ?_); intro gb256 hg w17 hbox hb; have BK256 := A_ hbox; have GW256 : Aside0 (w.heap.size ≤ gb256) := bge hg; have NB255_256 := bne BK255 hg; have NB256_255 := bnf BK255 hg; replace BK255 := bkb BK255 hb; replace HB := bst hb; clear hb hbox hg; have hnb18 := NB255_256.out; have hnc18 := NB256_255.out; have hcz19 := bc3 BK255) | ((with_reducible refine gate_dst (N := 9) rfl ?_); refine gl (some 9) Try.func24 #[.agg #[.slice A0_0 l0_0.length c0_0, .slice A0_1 l0_1.length c0_1, .slice A0_2 l0_2.length c0_2], .int .i64 a2] ?_; (with_reducible refine (stable_Fixed.calls _ _ l0_0 _ _ l0_1 _ _ l0_2 a2 false _ ?side1 ?side2 ?side3 ?side4 ?side5 ?side6 A4.out).mono ?_); (case side1 => exact kcb HR0_0); (case side2 => exact HC0_0.out); (case side3 => exact kcb HR0_1); (case side4 => exact HC0_1.out); (case side5 => exact kcb HR0_2); (case side6 => exact HC0_2.out); rintro e w20 ⟨rfl, hb⟩; refine ⟨_, rfl, ?_⟩; replace BK255 := bkb BK255 hb; replace BK256 := bkb BK256 hb; replace HB := bst hb; (try clear hb); have hcz21 := bc3 BK255) | ((with_reducible refine gate_dst (N := 14) rfl ?_); refine gl (some 14) Try.func12 #[.agg #[.slice A0_0 l0_0.length c0_0, .slice A0_1 l0_1.length c0_1, .slice A0_2 l0_2.length c0_2], .slice A1 l1.length c1, .int .i64 a2] ?_; (with_reducible refine (stable_Offers.calls k _ _ l0_0 _ _ l0_1 _ _ l0_2 _ _ l1 a2 t262 _ ?side1 ?side2 ?side3 ?side4 ?side5 ?side6 ?side7 ?side8 A14.out).mono ?_); (case side1 => exact kcb HR0_0); (case side2 => exact HC0_0.out); (case side3 => exact kcb HR0_1); (case side4 => exact HC0_1.out); (case side5 => exact kcb HR0_2); (case side6 => exact HC0_2.out); (case side7 => exact kcb HR1); (case side8 => exact HC1.out); rintro e w22 ⟨v263, rfl, ho0, hb⟩; refine ⟨_, rfl, ?_⟩; have HO264 := A_ (Kd.R_lower (Kd.R_newB ho0 (g := gb256) (o := .cells #[.bool false, .int .i64 0, .int .i64 0, .int .u8 0] 41 (0, 0)) (bkq BK256)) (below_size bel)); replace BK255 := bkb BK255 hb; replace BK256 := bkb BK256 hb; replace HB := bst hb; (try clear hb); obtain ⟨Ao23, co23, eo23⟩ := Kd.R_slice HO264.out; subst eo23) | ((with_reducible refine gate_dst (N := 15) rfl ?_); refine gl (some 15) Try.func26 #[.slice Ao23 t262.length co23] ?_; (with_reducible refine (attr_Best.calls k _ _ t262 t265 t266 t267 t268 _ ?side1 ?side2 A15.out).mono ?_); (case side1 => exact rR HO264); (case side2 => exact (Kd.R_reads' HO264.out).2.1); rintro e w24 ⟨rfl, hb⟩; refine ⟨_, rfl, ?_⟩; replace HO264 := A_ (Kd.R_below (kR HO264) hb); replace BK255 := bkb BK255 hb; replace BK256 := bkb BK256 hb; replace HB := bst hb; (try clear hb); have hcz25 := bc4 BK256))
  refine bodyPost_ret (results_cell_row rfl _ _ gb256 41 #[.bool t265, .int .i64 t266, .int .i64 t267, .int .u8 t268] (0, 0) _ rfl (bkp BK256) Try.underlying41 rfl (by kernel_rfl)) rfl ?_; exact ⟨eqd, bel⟩
end Go.Proofs.Ytcagkdgpoijkoaa.PLm
end
section
namespace Go.Proofs.Ytcagkdgpoijkoaa.LiN
open Go.RowKit Go.Proofs.Ytcagkdgpoijkoaa.PLm Go.Proofs.YtcagkdgpoijkoaaW.PrintWords Go.Proofs.YtcagkdgpoijkoaaW.PrintLast Go.Proofs.YtcagkdgpoijkoaaW.PrintMore Go.Proofs.Ytcagkdgpoijkoaa.Low Go.Proofs.Ytcagkdgpoijkoaa.LiC
open Go.Proofs.Ytcagkdgpoijkoaa.Mq (Pf Rt Cl Ed Mp Lk)
set_option linter.unusedVariables false
set_option linter.unusedSimpArgs false
set_option linter.all false
abbrev AT := S41
theorem covers_ok (a b c d : Int) : ∃ r, prefix_Covers.f a b c d = some r := ⟨_, rfl⟩
theorem matches_ok (c : CL) (p0 p1 t : Int) : ∃ r, clause_Matches.f c.f0 c.f1.f0 c.f1.f1 c.f2 c.f3 c.f4 c.f5 c.f6 c.f7 c.f8 p0 p1 t = some r := by
  unfold clause_Matches.f
  obtain ⟨q, hq⟩ := covers_ok c.f1.f0 c.f1.f1 p0 p1
  rw [hq, Option.bind_some]
  repeat (first | exact ⟨_, rfl⟩ | split)
theorem do_l (cs : List CL) (hn : cs.length ≤ 4611686018427387904) (p0 p1 : Int) (b : Bool) (x1 x2 x3 : Int) : ∀ d i, i + d = cs.length → ∃ k r, clause_Do.l0 k cs (cs.length : Int) (i : Int) p0 p1 b x1 x2 x3 = some r
  | 0, i, h => ⟨1, (b, x1, x2, x3), by rw [clause_Do.l0, if_neg (by omega)]⟩
  | d + 1, i, h => by
    obtain ⟨k, r, hk⟩ := do_l cs hn p0 p1 b x1 x2 x3 d (i + 1) (by omega)
    obtain ⟨q, hq⟩ := matches_ok (rd_T116 cs (i : Int)) p0 p1 x3
    refine ⟨k + 1, ?_⟩
    rw [clause_Do.l0, if_pos (by omega), if_pos (by omega), if_pos (by omega), hq, Option.bind_some, w1 (by omega), hk]
    repeat (first | exact ⟨_, rfl⟩ | split)
theorem do_ok (cs : List CL) (hn : cs.length ≤ 4611686018427387904) (p0 p1 : Int) (b : Bool) (x1 x2 x3 : Int) : ∃ k r, clause_Do.f k cs p0 p1 b x1 x2 x3 = some r := by
  obtain ⟨k, r, h⟩ := do_l cs hn p0 p1 b x1 x2 x3 cs.length 0 (by omega)
  refine ⟨k, ?_⟩
  unfold clause_Do.f
  rw [show ((0 : Nat) : Int) = 0 from rfl] at h
  rw [h]
  repeat (first | exact ⟨_, rfl⟩ | split)
theorem take_ok (a0 a1 : Int) (x y : List CL) (hx : x.length ≤ 4611686018427387904) (hy : y.length ≤ 4611686018427387904) (b : Bool) (x1 x2 x3 : Int) : ∃ k r, edge_Take.f k a0 a1 x y b x1 x2 x3 = some r := by
  obtain ⟨k, r, h⟩ := do_ok x hx 0 0 b x1 x2 x3
  obtain ⟨k2, r2, h2⟩ := do_ok y hy 0 0 r.1 100 (wrap64 (r.2.2.1 + (mx 1 (mn a1 1000)))) r.2.2.2
  refine ⟨k + k2, ?_⟩
  unfold edge_Take.f
  rw [up (F := fun k => clause_Do.f k x 0 0 b x1 x2 x3) (fun k => clause_Do.mono _ _ _ _ _ _ _ k) (Nat.le_add_right k k2) h, Option.bind_some, up (F := fun k => clause_Do.f k y 0 0 r.1 100 (wrap64 (r.2.2.1 + (mx 1 (mn a1 1000)))) r.2.2.2) (fun k => clause_Do.mono _ _ _ _ _ _ _ k) (Nat.le_add_left k2 k) h2, Option.bind_some]
  repeat (first | exact ⟨_, rfl⟩ | split)
def okE (e : ED) : Prop := e.f2.length ≤ 4611686018427387904 ∧ e.f3.length ≤ 4611686018427387904
theorem okE_rd {es : List ED} (hE : ∀ e ∈ es, okE e) (i : Int) : okE (rd_T51 es i) := by
  unfold rd_T51
  rw [List.getD_eq_getElem?_getD]
  cases h : es[i.toNat]? with
  | none => exact ⟨by show (0 : Nat) ≤ _; omega, by show (0 : Nat) ≤ _; omega⟩
  | some e => exact hE e (List.mem_of_getElem? h)
theorem offers_l (L : List AT) (es : List ED) (hE : ∀ e ∈ es, okE e) (hn : es.length ≤ 1000000) : ∀ d i (acc : List AT), i + d = es.length → acc.length = i → ∃ k r, stable_Offers.l0 k L acc es (es.length : Int) (i : Int) = some r ∧ r.length = es.length
  | 0, i, acc, h, ha => ⟨1, acc, by rw [stable_Offers.l0, if_neg (by omega)], by omega⟩
  | d + 1, i, acc, h, ha => by
    have hz : ∃ k r, stable_Offers.l0 k L (acc ++ [⟨false, 0, 0, 0⟩]) es (es.length : Int) ((i + 1 : Nat) : Int) = some r ∧ r.length = es.length := offers_l L es hE hn d (i + 1) _ (by omega) (by simp [ha])
    obtain ⟨k0, r0, hz, hl0⟩ := hz
    have he := okE_rd hE (i : Int)
    obtain ⟨k1, r1, ht⟩ := take_ok (rd_T51 es (i : Int)).f0 (rd_T51 es (i : Int)).f1 _ _ he.1 he.2 (rd_T41 L (rd_T51 es (i : Int)).f0).f0 (rd_T41 L (rd_T51 es (i : Int)).f0).f1 (rd_T41 L (rd_T51 es (i : Int)).f0).f2 (rd_T41 L (rd_T51 es (i : Int)).f0).f3
    have hy : ∃ k r, stable_Offers.l0 k L (acc ++ [⟨r1.1, r1.2.1, r1.2.2.1, r1.2.2.2⟩]) es (es.length : Int) ((i + 1 : Nat) : Int) = some r ∧ r.length = es.length := offers_l L es hE hn d (i + 1) _ (by omega) (by simp [ha])
    obtain ⟨k2, r2, hy, hl2⟩ := hy
    by_cases c1 : (rd_T51 es (i : Int)).f0 ≥ 0
    · by_cases c2 : (rd_T51 es (i : Int)).f0 < (L.length : Int)
      · refine ⟨k1 + k2 + 1, r2, ?_, hl2⟩
        rw [stable_Offers.l0, if_pos (by omega), if_pos (by omega), if_pos (by omega), if_pos c1, if_pos c2, if_pos (by omega), up (F := fun k => edge_Take.f k _ _ _ _ _ _ _ _) (fun k => edge_Take.mono _ _ _ _ _ _ _ _ k) (Nat.le_add_right k1 k2) ht, Option.bind_some, if_pos (by omega), w1 (by omega)]
        exact up (F := fun k => stable_Offers.l0 k _ _ _ _ _) (fun k => (stable_Offers.mono_l k).2 _ _ _ _ _) (Nat.le_add_left k2 k1) hy
      · refine ⟨k0 + 1, r0, ?_, hl0⟩
        rw [stable_Offers.l0, if_pos (by omega), if_pos (by omega), if_pos (by omega), if_pos c1, if_neg c2, if_pos (by omega), w1 (by omega)]
        exact hz
    · refine ⟨k0 + 1, r0, ?_, hl0⟩
      rw [stable_Offers.l0, if_pos (by omega), if_pos (by omega), if_pos (by omega), if_neg c1, if_pos (by omega), w1 (by omega)]
      exact hz
structure NetOk (o : List Bool) (s : List Int) (E : List (List ED)) : Prop where
  l : o.length ≤ 1000000
  e : ∀ es ∈ E, es.length ≤ 1000000 ∧ ∀ e ∈ es, okE e
theorem offers_ok (o : List Bool) (s : List Int) (E : List (List ED)) (h : NetOk o s E) (L : List AT) (j : Nat) : ∃ k r, stable_Offers.f k o s E L (j : Int) = some r ∧ r.length ≤ (E.getD j []).length := by
  unfold stable_Offers.f
  by_cases c : j < E.length
  · have e : E.getD j [] = E[j] := by rw [List.getD_eq_getElem?_getD, List.getElem?_eq_getElem c]; rfl
    have hm := h.e E[j] (List.getElem_mem c)
    obtain ⟨k, r, hk, hl⟩ := offers_l L E[j] hm.2 hm.1 E[j].length 0 [] (by omega) rfl
    refine ⟨k + 1, r, ?_, by rw [e]; omega⟩
    rw [if_neg (by omega), stable_Offers.j0, if_neg (by simp; omega), if_pos (by omega), if_pos (by omega)]
    have e2 : rd_L23 E (j : Int) = E[j] := e
    rw [e2]
    exact hk
  · refine ⟨1, [], ?_, by simp⟩
    rw [if_neg (by omega), stable_Offers.j0, if_pos (by simp; omega)]
theorem fixed_ok (o : List Bool) (s : List Int) (E : List (List ED)) (j : Nat) : ∃ r, stable_Fixed.f o s E (j : Int) = some r := by
  unfold stable_Fixed.f
  repeat (first | exact ⟨_, rfl⟩ | split)
theorem better_ok (b : Bool) (x1 x2 x3 : Int) (c : Bool) (y1 y2 y3 : Int) (k : Nat) : ∃ r, attr_Better.f (k + 1) b x1 x2 x3 c y1 y2 y3 = some r := by
  unfold attr_Better.f
  repeat (first | exact ⟨_, rfl⟩ | rw [attr_Better.j0] | split)
theorem best_l (L : List AT) (hn : L.length ≤ 4611686018427387904) : ∀ d i (b : Bool) (x1 x2 x3 : Int), i + d = L.length → ∃ k r, attr_Best.l0 k L (L.length : Int) (i : Int) b x1 x2 x3 = some r
  | 0, i, b, x1, x2, x3, h => ⟨1, (b, x1, x2, x3), by rw [attr_Best.l0, if_neg (by omega)]⟩
  | d + 1, i, b, x1, x2, x3, h => by
    obtain ⟨k1, r1, h1⟩ := best_l L hn d (i + 1) b x1 x2 x3 (by omega)
    obtain ⟨k2, r2, h2⟩ := best_l L hn d (i + 1) (rd_T41 L (i : Int)).f0 (rd_T41 L (i : Int)).f1 (rd_T41 L (i : Int)).f2 (rd_T41 L (i : Int)).f3 (by omega)
    obtain ⟨q, hq⟩ := better_ok (rd_T41 L (i : Int)).f0 (rd_T41 L (i : Int)).f1 (rd_T41 L (i : Int)).f2 (rd_T41 L (i : Int)).f3 b x1 x2 x3 (k1 + k2)
    refine ⟨k1 + k2 + 1 + 1, ?_⟩
    rw [attr_Best.l0, if_pos (by omega), if_pos (by omega), if_pos (by omega), hq, Option.bind_some, w1 (by omega)]
    rw [up (F := fun k => attr_Best.l0 k L (L.length : Int) ((i + 1 : Nat) : Int) b x1 x2 x3) (fun k => attr_Best.mono_l k _ _ _ _ _ _ _) (by omega : k1 ≤ k1 + k2 + 1) h1]
    rw [up (F := fun k => attr_Best.l0 k L (L.length : Int) ((i + 1 : Nat) : Int) _ _ _ _) (fun k => attr_Best.mono_l k _ _ _ _ _ _ _) (by omega : k2 ≤ k1 + k2 + 1) h2]
    repeat (first | exact ⟨_, rfl⟩ | split)
theorem best_ok (L : List AT) (hn : L.length ≤ 4611686018427387904) : ∃ k r, attr_Best.f k L = some r := by
  obtain ⟨k, r, h⟩ := best_l L hn L.length 0 false 0 0 0 (by omega)
  exact ⟨k, r, h⟩
theorem choice_ok (o : List Bool) (s : List Int) (E : List (List ED)) (h : NetOk o s E) (L : List AT) (j : Nat) : ∃ k r, stable_Choice.f k o s E L (j : Int) = some r := by
  obtain ⟨q, hq⟩ := fixed_ok o s E j
  obtain ⟨k1, r1, h1, hl⟩ := offers_ok o s E h L j
  have hb : r1.length ≤ 4611686018427387904 := by
    have : (E.getD j []).length ≤ 1000000 := by
      rw [List.getD_eq_getElem?_getD]
      cases e : E[j]? with
      | none => exact Nat.zero_le _
      | some es => exact (h.e es (List.mem_of_getElem? e)).1
    omega
  obtain ⟨k2, r2, h2⟩ := best_ok r1 hb
  refine ⟨k1 + k2, ?_⟩
  unfold stable_Choice.f
  rw [hq, Option.bind_some, up (F := fun k => stable_Offers.f k o s E L (j : Int)) (fun k => stable_Offers.mono _ _ _ _ _ k) (Nat.le_add_right k1 k2) h1, Option.bind_some, up (F := fun k => attr_Best.f k r1) (fun k => attr_Best.mono _ k) (Nat.le_add_left k2 k1) h2, Option.bind_some]
  repeat (first | exact ⟨_, rfl⟩ | split)
theorem of_at (o : List Bool) (s : List Int) (E : List (List ED)) (h : NetOk o s E) (L : List AT) : ∃ K G, (∀ k, K ≤ k → forward_Of.f k o s E L = some G) ∧ G.length = o.length := by
  have hall : ∀ n : Nat, ∃ K, ∀ j : Nat, j < n → ∃ r, stable_Offers.f K o s E L (j : Int) = some r ∧ r.length ≤ (E.getD j []).length := by
    intro n
    induction n with
    | zero => exact ⟨0, fun j hj => absurd hj (by omega)⟩
    | succ n ih =>
      obtain ⟨K, hK⟩ := ih
      obtain ⟨k, r, hk, hl⟩ := offers_ok o s E h L n
      refine ⟨K + k, fun j hj => ?_⟩
      by_cases hjn : j < n
      · obtain ⟨r, hr, hl⟩ := hK j hjn
        exact ⟨r, up (F := fun k => stable_Offers.f k o s E L (j : Int)) (fun k => stable_Offers.mono _ _ _ _ _ k) (Nat.le_add_right K k) hr, hl⟩
      · obtain rfl : j = n := by omega
        exact ⟨r, up (F := fun k => stable_Offers.f k o s E L (j : Int)) (fun k => stable_Offers.mono _ _ _ _ _ k) (Nat.le_add_left k K) hk, hl⟩
  obtain ⟨K, hK⟩ := hall o.length
  have hok : forward_Of.ok K o s E L = true := by
    unfold forward_Of.ok
    have hol := h.l
    simp only [Bool.and_eq_true, decide_eq_true_eq, List.all_eq_true]
    refine ⟨by omega, fun j hj => ?_⟩
    obtain ⟨r, hr, hl⟩ := hK j (List.mem_range.1 hj)
    have hb : (E.getD j []).length ≤ 1000000 := by
      rw [List.getD_eq_getElem?_getD]
      cases e : E[j]? with
      | none => exact Nat.zero_le _
      | some es => exact (h.e es (List.mem_of_getElem? e)).1
    rw [hr]
    simp only [Bool.and_eq_true, decide_eq_true_eq]
    exact ⟨by omega, hl⟩
  refine ⟨K, _, fun k hk => up (F := fun k => forward_Of.f k o s E L) (fun k => forward_Of.mono _ _ _ _ k) hk (by unfold forward_Of.f; rw [if_pos hok]), ?_⟩
  exact Go.Proofs.Ytcagkdgpoijkoaa.OfP.ofN_len _ _ _
theorem frEd_ok (N : Nat) (h : N ≤ 4611686018427387904) (y : Ed) (h1 : y.exp.length ≤ N) (h2 : y.imp.length ≤ N) : okE (frEd y) := by
  have e1 : (frEd y).f2.length = y.exp.length := List.length_map _
  have e2 : (frEd y).f3.length = y.imp.length := List.length_map _
  exact ⟨by omega, by omega⟩
theorem net_ok (M : List MP) (R : List RT) (hF : Fit M R) (a b : Int) : NetOk (netO R a b) (netS R a b) (netE M R a b) := by
  refine ⟨?_, ?_⟩
  · have := hF.l
    unfold netO
    rw [List.length_map, List.length_map]
    omega
  · intro es hes
    unfold netE at hes
    obtain ⟨es', hes', rfl⟩ := List.mem_map.1 hes
    obtain ⟨r', hr', rfl⟩ := List.mem_map.1 hes'
    obtain ⟨r, hr, rfl⟩ := List.mem_map.1 hr'
    have hr1 := hF.r r hr
    refine ⟨?_, ?_⟩
    · rw [List.length_map]
      unfold edgesB
      refine Nat.le_trans (List.length_filterMap_le _ _) ?_
      show (r.f2.map toLk).length ≤ _
      rw [List.length_map]
      omega
    · intro e he
      obtain ⟨y, hy, rfl⟩ := List.mem_map.1 he
      unfold edgesB at hy
      obtain ⟨l, -, hl⟩ := List.mem_filterMap.1 hy
      unfold edgeB at hl
      obtain ⟨k, -, rfl⟩ := Option.map_eq_some_iff.1 hl
      have hM : ∀ m ∈ M.map toMp, m.clauses.length ≤ 1000 := by
        intro m hm
        obtain ⟨m', hm', rfl⟩ := List.mem_map.1 hm
        show (m'.f1.map toCl).length ≤ 1000
        rw [List.length_map]
        exact hF.m m' hm'
      exact frEd_ok 1000 (by omega) _ (clauses_len _ _ hM _ _) (clauses_len _ _ hM _ _)
theorem lnet_at {a0 : Int} {ls : List Int} {mp : List (List Cfg.SU)} {ns nt ws : List Int} (h : Cfg.Shape a0 ls mp ns nt ws) (a1 : Int) (ha1 : 0 ≤ a1 ∧ a1 ≤ 255) : ∃ K o s E p0 p1 b, (∀ k, K ≤ k → maquettelaw15_Net.f k a0 ls mp ns nt ws a1 = some (o, s, E, p0, p1, b)) ∧ (b = true → ∃ p0 p1, o = netO (Cfg.crouts a0 ls mp ns nt ws) p0 p1 ∧ s = netS (Cfg.crouts a0 ls mp ns nt ws) p0 p1 ∧ E = netE (Cfg.cmaps mp) (Cfg.crouts a0 ls mp ns nt ws) p0 p1) := by
  obtain ⟨K, hK⟩ := Cfg.config_at h
  have hF := config_fit h
  by_cases hc : (cls (Cfg.crouts a0 ls mp ns nt ws)).length = 0
  · refine ⟨K, [], [], [], 0, 0, false, fun k hk => ?_, fun hb => by cases hb⟩
    unfold maquettelaw15_Net.f
    rw [hK k hk, Option.bind_some, classes_at _ _ hF, Option.bind_some, if_pos (by omega)]
  · obtain ⟨q, hq⟩ : ∃ q, q = rd_T35 (cls (Cfg.crouts a0 ls mp ns nt ws)) (a1 % ((cls (Cfg.crouts a0 ls mp ns nt ws)).length : Int)) := ⟨_, rfl⟩
    refine ⟨K, netO (Cfg.crouts a0 ls mp ns nt ws) q.f0 q.f1, netS (Cfg.crouts a0 ls mp ns nt ws) q.f0 q.f1, netE (Cfg.cmaps mp) (Cfg.crouts a0 ls mp ns nt ws) q.f0 q.f1, q.f0, q.f1, true, fun k hk => ?_, fun _ => ⟨q.f0, q.f1, rfl, rfl, rfl⟩⟩
    have e1 : wrap64 a1 = a1 := by unfold wrap64; omega
    have e2 : Int.tmod a1 ((cls (Cfg.crouts a0 ls mp ns nt ws)).length : Int) = a1 % ((cls (Cfg.crouts a0 ls mp ns nt ws)).length : Int) := Int.tmod_eq_emod_of_nonneg ha1.1
    have e3 := Int.emod_nonneg a1 (show ((cls (Cfg.crouts a0 ls mp ns nt ws)).length : Int) ≠ 0 by omega)
    have e4 := Int.emod_lt_of_pos a1 (show 0 < ((cls (Cfg.crouts a0 ls mp ns nt ws)).length : Int) by omega)
    unfold maquettelaw15_Net.f
    rw [hK k hk, Option.bind_some, classes_at _ _ hF, Option.bind_some, if_neg (by omega), e1, e2, if_pos e3, if_pos e4, ← hq, net_at _ _ hF, Option.bind_some]
end Go.Proofs.Ytcagkdgpoijkoaa.LiN
end
section
namespace Go.Proofs.Ytcagkdgpoijkoaa.FwQ
open Go.Proofs.Ytcagkdgpoijkoaa.FwP
set_option linter.unusedVariables false
set_option linter.unusedSimpArgs false
def leB (a b : List Bool) : Prop := ∀ k : Nat, a[k]? = some true → b[k]? = some true
theorem leB_refl (a : List Bool) : leB a a := fun _ h => h
theorem leB_trans {a b c : List Bool} (h : leB a b) (h' : leB b c) : leB a c := fun k hk => h' k (h k hk)
theorem leB_cons {x y : Bool} {a b : List Bool} (h : leB (x :: a) (y :: b)) : (x = true → y = true) ∧ leB a b :=
  ⟨fun hx => by have := h 0 (by simp [hx]); simpa using this, fun k hk => by have := h (k + 1) (by simpa using hk); simpa using this⟩
theorem count_le : ∀ {a b : List Bool}, a.length = b.length → leB a b → a.count true ≤ b.count true ∧ (a.count true = b.count true → a = b)
  | [], [], _, _ => ⟨Nat.le_refl _, fun _ => rfl⟩
  | x :: a, y :: b, hl, h => by
    obtain ⟨h1, h2⟩ := leB_cons h; obtain ⟨h3, h4⟩ := count_le (by simpa using hl) h2; cases x <;> cases y <;> simp at h1 ⊢
    · exact ⟨h3, h4⟩
    · exact ⟨by omega, by omega⟩
    · exact ⟨h3, h4⟩
  | [], _ :: _, hl, _ => by simp at hl
  | _ :: _, [], hl, _ => by simp at hl
theorem chain_up {U : Nat → List Bool} {F : List Bool → List Bool} {N : Nat} (hF : ∀ n, U (n + 1) = F (U n)) (hl : ∀ n, (U n).length = N) (hle : ∀ n, leB (U n) (U (n + 1))) : ∀ m, N ≤ m → U m = U N := by
  have still : ∀ n, U (n + 1) = U n → ∀ d, U (n + d) = U n := by
    intro n hn d
    induction d with
    | zero => rfl
    | succ d ih => rw [← Nat.add_assoc, hF, ih, ← hF, hn]
  have hex : ∃ n, n ≤ N ∧ U (n + 1) = U n := by
    apply Classical.byContradiction; intro hno; have hne : ∀ n, n ≤ N → U (n + 1) ≠ U n := fun n hn e => hno ⟨n, hn, e⟩
    have hc : ∀ n, n ≤ N + 1 → n ≤ (U n).count true := by
      intro n
      induction n with
      | zero => intro _; omega
      | succ n ih =>
        intro hn; have h1 := ih (by omega); obtain ⟨h2, h3⟩ := count_le (by rw [hl, hl]) (hle n); rcases Nat.lt_or_ge ((U n).count true) ((U (n + 1)).count true) with h4 | h4
        · omega
        · exact absurd (h3 (by omega)).symm (hne n (by omega))
    have h1 := hc (N + 1) (Nat.le_refl _); have h2 : (U (N + 1)).count true ≤ (U (N + 1)).length := List.count_le_length; rw [hl] at h2; omega
  obtain ⟨n, hn, e⟩ := hex; intro m hm; have h1 := still n e (m - n); have h2 := still n e (N - n); rw [show n + (m - n) = m by omega] at h1; rw [show n + (N - n) = N by omega] at h2; rw [h1, h2]
theorem hit_get (to_ : List Bool) (x : Int) : hit to_ x = true ↔ 0 ≤ x ∧ to_[x.toNat]? = some true := by
  unfold hit; by_cases h0 : 0 ≤ x
  · by_cases h1 : x < to_.length
    · have h2 : x.toNat < to_.length := by omega
      rw [List.getD_eq_getElem?_getD, List.getElem?_eq_getElem h2]; simp [h0, h1]
    · have h2 : to_.length ≤ x.toNat := by omega
      rw [List.getElem?_eq_none h2]; simp [h0, h1]
  · simp [h0]
theorem stepB_get (g : List (List Int)) (to_ : List Bool) (k : Nat) : (stepB g to_)[k]? = some true ↔ ∃ r, g[k]? = some r ∧ ∃ x ∈ r, 0 ≤ x ∧ to_[x.toNat]? = some true := by
  unfold stepB; rw [List.getElem?_map]
  cases hr : g[k]? with
  | none => simp
  | some r => simp [List.any_eq_true, hit_get]
theorem stepB_mono {g : List (List Int)} {a b : List Bool} (h : leB a b) : leB (stepB g a) (stepB g b) := by
  intro k hk; rw [stepB_get] at hk ⊢; obtain ⟨r, hr, x, hx, h0, h1⟩ := hk; exact ⟨r, hr, x, hx, h0, h _ h1⟩
theorem orB_get {a b : List Bool} (hl : b.length = a.length) (k : Nat) : (orB a b)[k]? = some true ↔ a[k]? = some true ∨ b[k]? = some true := by
  unfold orB; rw [List.getElem?_zipWith]; rcases Nat.lt_or_ge k a.length with h1 | h1
  · rw [List.getElem?_eq_getElem h1, List.getElem?_eq_getElem (by omega)]
    simp
  · rw [List.getElem?_eq_none h1, List.getElem?_eq_none (by omega)]
    simp
section
variable {g : List (List Int)} {p : List Bool} (hp : p.length = g.length)
include hp
theorem reachIt_up (n : Nat) : leB (reachIt g n p) (reachIt g (n + 1) p) := by
  intro k hk; rw [reachIt, orB_get (by rw [stepB_len, reachIt_len g p hp n])]; exact .inl hk
theorem reachIt_ge {n m : Nat} (h : n ≤ m) : leB (reachIt g n p) (reachIt g m p) := by
  obtain ⟨d, rfl⟩ := Nat.le.dest h; clear h
  induction d with
  | zero => exact leB_refl _
  | succ d ih => exact leB_trans ih (reachIt_up hp _)
theorem it_reach (n : Nat) : leB (itB g n p) (reachIt g n p) := by
  induction n with
  | zero => exact leB_refl _
  | succ n ih =>
    intro k hk; rw [reachIt, orB_get (by rw [stepB_len, reachIt_len g p hp n])]; exact .inr (stepB_mono ih k hk)
theorem reach_it (n k : Nat) (h : (reachIt g n p)[k]? = some true) : ∃ i, i ≤ n ∧ (itB g i p)[k]? = some true := by
  induction n generalizing k with
  | zero => exact ⟨0, Nat.le_refl _, h⟩
  | succ n ih =>
    rw [reachIt, orB_get (by rw [stepB_len, reachIt_len g p hp n])] at h; rcases h with h | h
    · obtain ⟨i, hi, h⟩ := ih k h
      exact ⟨i, by omega, h⟩
    · rw [stepB_get] at h
      obtain ⟨r, hr, x, hx, h0, h1⟩ := h; obtain ⟨i, hi, h2⟩ := ih _ h1; exact ⟨i + 1, by omega, by rw [itB, stepB_get]; exact ⟨r, hr, x, hx, h0, h2⟩⟩
theorem it_reach_all (n : Nat) : leB (itB g n p) (reachIt g g.length p) := by
  have h := chain_up (U := fun n => reachIt g n p) (F := fun a => orB a (stepB g a)) (N := g.length) (fun n => rfl) (fun n => reachIt_len g p hp n) (fun n => reachIt_up hp n); rcases Nat.le_total n g.length with hn | hn
  · exact leB_trans (it_reach hp n) (reachIt_ge hp hn)
  · have := it_reach hp n
    rwa [h n hn] at this
end
theorem reachB_len (g : List (List Int)) (to_ : List Bool) : (reachB g to_).length = g.length := reachIt_len g _ (pad_len _ _) _
theorem pad_get (n : Nat) (to_ : List Bool) (k : Nat) (h : k < n) : (pad n to_)[k]? = some (decide (k < to_.length) && to_.getD k false) := by
  unfold pad; by_cases hk : k < to_.length
  · rw [List.getElem?_append_left (by rw [List.length_take]; omega), List.getElem?_take, if_pos h, List.getD_eq_getElem?_getD, List.getElem?_eq_getElem hk]
    simp [hk]
  · have hl : (to_.take n).length ≤ k := by rw [List.length_take]; omega
    rw [List.getElem?_append_right hl, List.getElem?_replicate, if_pos (by rw [List.length_take]; omega)]; simp [hk]
end Go.Proofs.Ytcagkdgpoijkoaa.FwQ
end
section
namespace Go.Proofs.Ytcagkdgpoijkoaa.PLm
open Go.RowKit Go.Proofs.Ytcagkdgpoijkoaa.Short Go.Proofs.YtcagkdgpoijkoaaW.PrintWords Go.Proofs.YtcagkdgpoijkoaaW.PrintLast Go.Proofs.YtcagkdgpoijkoaaW.PrintMore
attribute [local go_sem] max2_int min2_int max_two min_two max_three min_three max_four min_four
set_option linter.unusedVariables false
set_option linter.unusedSimpArgs false
def forward_Reach.f (l0 : List (List Int)) (l1 : List Bool) : Option (List Bool) := if l0.length ≤ 1000000000 then some (Go.Proofs.Ytcagkdgpoijkoaa.FwP.reachB l0 l1) else none
theorem forward_Reach.calls (A0 : Option Addr) (c0 : Nat) (l0 : List (List Int)) (A1 : Option Addr) (c1 : Nat) (l1 : List Bool) (r : List Bool) (w : World) (hr0 : Kd.C (Kd.slice 3 (Kd.int .i64)) w A0 l0.length l0) (hc0 : l0.length ≤ c0) (hr1 : Kd.C Kd.bool w A1 l1.length l1) (hc1 : l1.length ≤ c1) (h : forward_Reach.f l0 l1 = some r) :
  Calls Try.prog 15 #[.slice A0 l0.length c0, .slice A1 l1.length c1] w fun e w' => ∃ v0_ : Value, e = .returned (v0_) ∧ Kd.R Kd.bool 4 w' w.heap.size (fun _ => True) v0_ r ∧ Below w.heap.size w w' := by
 unfold forward_Reach.f at h; split at h
 ·rename_i hl
  have h := Option.some.inj h; refine (Go.Proofs.Ytcagkdgpoijkoaa.Fw.reach_calls (Go.Proofs.Ytcagkdgpoijkoaa.Bridge.rows_int hr0) (Go.Proofs.Ytcagkdgpoijkoaa.Bridge.row_bool hr1) (by omega)).mono ?_; rintro e w' ⟨v, rfl, H⟩; have hR := Go.Proofs.Ytcagkdgpoijkoaa.Bridge.R_of_own (d := Kd.bool) (fun x : Bool => x) rfl (fun w S y cs hk W b ok => hk) H; rw [h, List.map_id'] at hR; exact ⟨v, rfl, hR, H.below⟩
 ·cases h
def forward_Loops.f (l0 : List (List Int)) : Option (List Bool) := if l0.length ≤ 1000000000 then some (Go.Proofs.Ytcagkdgpoijkoaa.FwP.loopsB l0) else none
theorem forward_Loops.calls (A0 : Option Addr) (c0 : Nat) (l0 : List (List Int)) (r : List Bool) (w : World) (hr0 : Kd.C (Kd.slice 3 (Kd.int .i64)) w A0 l0.length l0) (hc0 : l0.length ≤ c0) (h : forward_Loops.f l0 = some r) :
  Calls Try.prog 16 #[.slice A0 l0.length c0] w fun e w' => ∃ v0_ : Value, e = .returned (v0_) ∧ Kd.R Kd.bool 4 w' w.heap.size (fun _ => True) v0_ r ∧ Below w.heap.size w w' := by
 unfold forward_Loops.f at h; split at h
 ·rename_i hl
  have h := Option.some.inj h; refine (Go.Proofs.Ytcagkdgpoijkoaa.Fw.loops_calls (Go.Proofs.Ytcagkdgpoijkoaa.Bridge.rows_int hr0) (by omega)).mono ?_; rintro e w' ⟨v, rfl, H⟩; have hR := Go.Proofs.Ytcagkdgpoijkoaa.Bridge.R_of_own (d := Kd.bool) (fun x : Bool => x) rfl (fun w S y cs hk W b ok => hk) H; rw [h, List.map_id'] at hR; exact ⟨v, rfl, hR, H.below⟩
 ·cases h
def forward_Hops.f (l0 : List (List Int)) (l1 : List Bool) (a2 : Int) : Option (List (List Int)) := if l0.length ≤ 1000000000 then some (Go.Proofs.Ytcagkdgpoijkoaa.FwP.hopsB l0 l1 a2) else none
theorem forward_Hops.calls (A0 : Option Addr) (c0 : Nat) (l0 : List (List Int)) (A1 : Option Addr) (c1 : Nat) (l1 : List Bool) (a2 : Int) (r : List (List Int)) (w : World) (hr0 : Kd.C (Kd.slice 3 (Kd.int .i64)) w A0 l0.length l0) (hc0 : l0.length ≤ c0) (hr1 : Kd.C Kd.bool w A1 l1.length l1) (hc1 : l1.length ≤ c1) (h : forward_Hops.f l0 l1 a2 = some r) :
  Calls Try.prog 19 #[.slice A0 l0.length c0, .slice A1 l1.length c1, .int .i64 a2] w fun e w' => ∃ v0_ : Value, e = .returned (v0_) ∧ Kd.V (Kd.slice 3 (Kd.int .i64)) 29 w' w.heap.size (fun k_ => (w.heap.size ≤ k_)) v0_ r ∧ Below w.heap.size w w' := by
 unfold forward_Hops.f at h; split at h
 ·rename_i hl
  have h := Option.some.inj h; refine (Go.Proofs.Ytcagkdgpoijkoaa.Fw.hops_calls (Go.Proofs.Ytcagkdgpoijkoaa.Bridge.rows_int hr0) (Go.Proofs.Ytcagkdgpoijkoaa.Bridge.row_bool hr1) hl).mono ?_; rintro e w' ⟨v, rfl, H⟩; have hV := Go.Proofs.Ytcagkdgpoijkoaa.Bridge.V_of_own (d := Kd.slice 3 (Kd.int .i64)) (fun x : List Int => x) 29 w.heap.size rfl (show 0 < 1 by decide) (fun w S y cs hk => by simpa using Go.Proofs.Ytcagkdgpoijkoaa.Bridge.K_slice_back (d := Kd.int .i64) (r := Go.Proofs.Ytcagkdgpoijkoaa.Mq.int .i64) (fun x : Int => x) rfl (fun y cs hk => hk) y cs hk) H; rw [h, List.map_id'] at hV; exact ⟨v, rfl, hV, H.below⟩
 ·cases h
end Go.Proofs.Ytcagkdgpoijkoaa.PLm
end
