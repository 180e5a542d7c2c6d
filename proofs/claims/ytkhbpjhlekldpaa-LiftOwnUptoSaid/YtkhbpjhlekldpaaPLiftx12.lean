-- Written by wip/xprint.py of this work: the printer of the kit, with contracts of this work beside it, shortened.
import Derived.Test.YtkhbpjhlekldpaaShort
import Derived.Test.YtkhbpjhlekldpaaPLiftx0
import Derived.Test.YtkhbpjhlekldpaaPLiftx9
import Derived.Test.YtkhbpjhlekldpaaJ3
import Derived.Test.YtkhbpjhlekldpaaPLiftx11
namespace Go.Proofs.Ytkhbpjhlekldpaa.PLift
open Go.RowKit Go.Proofs.Ytkhbpjhlekldpaa.Short Go.Proofs.YtkhbpjhlekldpaaW.PrintWords Go.Proofs.YtkhbpjhlekldpaaW.PrintLast Go.Proofs.YtkhbpjhlekldpaaW.PrintMore
attribute [local go_sem] max2_int min2_int max_two min_two max_three min_three max_four min_four   -- for this text's walks alone
set_option linter.unusedVariables false
set_option linter.unusedSimpArgs false

/-! ### forward_Of: function 14 -/
def forward_Of.offs (k : Nat) (l0_0 : List Bool) (l0_1 : List Int) (l0_2 : List (List S51)) (l1 : List S41) (j : Nat) : List S41 := (stable_Offers.f k l0_0 l0_1 l0_2 l1 j).getD []
def forward_Of.ok (k : Nat) (l0_0 : List Bool) (l0_1 : List Int) (l0_2 : List (List S51)) (l1 : List S41) : Bool :=
 decide (l0_0.length ≤ 1000000000) && (List.range l0_0.length).all fun j => match stable_Offers.f k l0_0 l0_1 l0_2 l1 j with
  | some r => decide (r.length ≤ 1000000000) && decide (r.length ≤ (l0_2.getD j []).length)
  | none => false
def forward_Of.f (k : Nat) (l0_0 : List Bool) (l0_1 : List Int) (l0_2 : List (List S51)) (l1 : List S41) : Option (List (List Int)) :=
 if forward_Of.ok k l0_0 l0_1 l0_2 l1 = true then some (Go.Proofs.Ytkhbpjhlekldpaa.OfP.ofB l0_0 l0_1 (l0_2.map (·.map toEd)) (l1.map toAt) fun j => (forward_Of.offs k l0_0 l0_1 l0_2 l1 j).map toAt) else none
theorem forward_Of.ok_at {k : Nat} {l0_0 : List Bool} {l0_1 : List Int} {l0_2 : List (List S51)} {l1 : List S41} (h : forward_Of.ok k l0_0 l0_1 l0_2 l1 = true) {j : Nat} (hj : j < l0_0.length) :
  ∃ r, stable_Offers.f k l0_0 l0_1 l0_2 l1 j = some r ∧ r.length ≤ 1000000000 ∧ r.length ≤ (l0_2.getD j []).length := by
 unfold forward_Of.ok at h
 simp only [Bool.and_eq_true, List.all_eq_true] at h
 have h1 := h.2 j (List.mem_range.2 hj)
 cases hr : stable_Offers.f k l0_0 l0_1 l0_2 l1 j with
 | none => rw [hr] at h1; cases h1
 | some r =>
  rw [hr] at h1
  simp only [Bool.and_eq_true, decide_eq_true_eq] at h1
  exact ⟨r, rfl, h1.1, h1.2⟩
theorem forward_Of.mono : ∀ a0 a1 a2 a3 k, LeO (forward_Of.f k a0 a1 a2 a3) (forward_Of.f (k + 1) a0 a1 a2 a3) := by
 intro a0 a1 a2 a3 k r h
 unfold forward_Of.f at h ⊢
 split at h
 ·rename_i hok
  have hs : ∀ j, j < a0.length → stable_Offers.f (k + 1) a0 a1 a2 a3 j = stable_Offers.f k a0 a1 a2 a3 j := fun j hj => by
   obtain ⟨r, hr, _⟩ := forward_Of.ok_at hok hj
   rw [hr]
   exact stable_Offers.mono _ _ _ _ _ _ _ hr
  have hok2 : forward_Of.ok (k + 1) a0 a1 a2 a3 = true := by
   unfold forward_Of.ok at hok ⊢
   simp only [Bool.and_eq_true, List.all_eq_true] at hok ⊢
   refine ⟨hok.1, fun j hj => ?_⟩
   rw [hs j (List.mem_range.1 hj)]
   exact hok.2 j hj
  rw [if_pos hok2, ← h]
  congr 1
  unfold Go.Proofs.Ytkhbpjhlekldpaa.OfP.ofB Go.Proofs.Ytkhbpjhlekldpaa.OfP.ofN
  refine List.map_congr_left fun j hj => ?_
  split
  ·unfold Go.Proofs.Ytkhbpjhlekldpaa.OfP.ofRow forward_Of.offs
   dsimp only
   rw [hs j (List.mem_range.1 hj)]
  ·rfl
 ·cases h
theorem forward_Of.same (a b : S41) : attr_Same.f a.f0 a.f1 a.f2 a.f3 b.f0 b.f1 b.f2 b.f3 = some (Go.Proofs.Ytkhbpjhlekldpaa.OfP.sameB (toAt a) (toAt b)) := by
 unfold attr_Same.f Go.Proofs.Ytkhbpjhlekldpaa.OfP.sameB toAt
 obtain ⟨a0, a1, a2, a3⟩ := a
 obtain ⟨b0, b1, b2, b3⟩ := b
 cases a0 <;> cases b0 <;> by_cases h1 : a1 = b1 <;> by_cases h2 : a2 = b2 <;> by_cases h3 : a3 = b3 <;> simp [h1, h2, h3]
theorem forward_Of.calls (k : Nat) (A0_0 : Option Addr) (c0_0 : Nat) (l0_0 : List Bool) (A0_1 : Option Addr) (c0_1 : Nat) (l0_1 : List Int) (A0_2 : Option Addr) (c0_2 : Nat) (l0_2 : List (List (S51))) (A1 : Option Addr) (c1 : Nat) (l1 : List (S41)) (r : List (List Int)) (w : World) (hr0_0 : Kd.C Kd.bool w A0_0 l0_0.length l0_0) (hc0_0 : l0_0.length ≤ c0_0) (hr0_1 : Kd.C (Kd.int .i64) w A0_1 l0_1.length l0_1) (hc0_1 : l0_1.length ≤ c0_1) (hr0_2 : Kd.C (Kd.slice 51 k51) w A0_2 l0_2.length l0_2) (hc0_2 : l0_2.length ≤ c0_2) (hr1 : Kd.C k41 w A1 l1.length l1) (hc1 : l1.length ≤ c1) (h : forward_Of.f k l0_0 l0_1 l0_2 l1 = some r) :
  Calls Try.prog 14 #[.agg #[.slice A0_0 l0_0.length c0_0, .slice A0_1 l0_1.length c0_1, .slice A0_2 l0_2.length c0_2], .slice A1 l1.length c1] w fun e w' => ∃ v0_ : Value, e = .returned (v0_) ∧ Kd.V (Kd.slice 3 (Kd.int .i64)) 29 w' w.heap.size (fun k_ => (w.heap.size ≤ k_)) v0_ r ∧ Below w.heap.size w w' := by
 unfold forward_Of.f at h
 split at h
 ·rename_i hok
  have h := Option.some.inj h
  have hol : l0_0.length ≤ 1000000000 := by
   unfold forward_Of.ok at hok
   simp only [Bool.and_eq_true, decide_eq_true_eq] at hok
   exact hok.1
  have hoc := Go.Proofs.Ytkhbpjhlekldpaa.Of.of_calls (c0 := c0_0) (c1 := c0_1) (c2 := c0_2) (cL := c1) (Go.Proofs.Ytkhbpjhlekldpaa.Bridge.row_bool hr0_0) (by simpa using Go.Proofs.Ytkhbpjhlekldpaa.Bridge.row_of_C (r := Go.Proofs.Ytkhbpjhlekldpaa.Mq.int .i64) (fun x : Int => x) rfl (show 0 < 1 by decide) (fun x cs hx => hx) hr0_1) (rows_ed hr0_2) (row_at hr1) hol (fun j => (forward_Of.offs k l0_0 l0_1 l0_2 l1 j).map toAt)
   (fun j W hj hB => by
    obtain ⟨rj, hrj, _, _⟩ := forward_Of.ok_at hok hj
    rw [List.length_map, List.length_map]
    refine (stable_Offers.calls k A0_0 c0_0 l0_0 A0_1 c0_1 l0_1 A0_2 c0_2 l0_2 A1 c1 l1 j rj W (Kd.C_below hr0_0 hB) hc0_0 (Kd.C_below hr0_1 hB) hc0_1 (Kd.C_below hr0_2 hB) hc0_2 (Kd.C_below hr1 hB) hc1 hrj).mono ?_
    rintro e W' ⟨v, rfl, hR, hb⟩
    refine ⟨v, rfl, ?_⟩
    have := Go.Proofs.Ytkhbpjhlekldpaa.Bridge.own_of_R (r := Go.Proofs.Ytkhbpjhlekldpaa.OfP.atR) toAt rfl (fun W b ok x cs hx S => by have h_ := k41_openM hx; subst h_; rfl) hR hb
    unfold forward_Of.offs
    rw [hrj]
    exact this)
   (fun j hj => by
    obtain ⟨rj, hrj, _, h2⟩ := forward_Of.ok_at hok hj
    unfold forward_Of.offs
    rw [hrj, List.length_map]
    refine Nat.le_trans h2 (Nat.le_of_eq ?_)
    simp only [List.getD_eq_getElem?_getD, List.getElem?_map]
    cases l0_2[j]? <;> simp)
   (fun j hj => by
    obtain ⟨rj, hrj, h1, _⟩ := forward_Of.ok_at hok hj
    unfold forward_Of.offs
    rw [hrj, List.length_map]
    exact h1)
   (fun a b W => by
    refine (attr_Same.calls a.ok a.pref a.cost a.tags b.ok b.pref b.cost b.tags _ W (forward_Of.same ⟨a.ok, a.pref, a.cost, a.tags⟩ ⟨b.ok, b.pref, b.cost, b.tags⟩)).mono ?_
    rintro e W' ⟨rfl, hb⟩
    exact ⟨rfl, Go.Proofs.Ytkhbpjhlekldpaa.Mq.mem_of_below hb⟩)
  rw [List.length_map, List.length_map] at hoc
  refine hoc.mono ?_
  rintro e w' ⟨v, rfl, H⟩
  have hV := Go.Proofs.Ytkhbpjhlekldpaa.Bridge.V_of_own (d := Kd.slice 3 (Kd.int .i64)) (fun x : List Int => x) 29 w.heap.size rfl (show 0 < 1 by decide) (fun w S y cs hk => by simpa using Go.Proofs.Ytkhbpjhlekldpaa.Bridge.K_slice_back (d := Kd.int .i64) (r := Go.Proofs.Ytkhbpjhlekldpaa.Mq.int .i64) (fun x : Int => x) rfl (fun y cs hk => hk) y cs hk) H
  rw [h, List.map_id'] at hV
  exact ⟨v, rfl, hV, H.below⟩
 ·cases h

end Go.Proofs.Ytkhbpjhlekldpaa.PLift
