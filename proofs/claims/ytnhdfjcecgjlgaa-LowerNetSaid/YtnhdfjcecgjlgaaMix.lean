/- Words of this work: a region that draws its order, whose last operations write what others have read: what is only read is taken first. Nothing here names the program. -/
import Derived.Test.YtnhdfjcecgjlgaaJ1
import Derived.OrdersHeld
import Derived.StillTail
namespace Go.Proofs.Ytnhdfjcecgjlgaa.Mq
open Go.RowKit
set_option linter.unusedVariables false
set_option linter.unusedSimpArgs false
section
variable {P : Program} {ops : Array Oper} {Q : Exit → Act → World → Prop} {md : Region.Mode} {S : World → Prop} {m : Nat}
def wpAnyM (P : Program) (md : Region.Mode) (ops : Array Oper) (Q : Exit → Act → World → Prop) (S : World → Prop) (m : Nat) : Nat → Array Bool → Act → World → Prop
  | 0, listed, a, w => Region.ready md ops listed = [] ∧ Q .normal a w
  | fuel + 1, listed, a, w =>
    (Region.ready md ops listed = [] → Q .normal a w) ∧
    ∀ i ∈ Region.ready md ops listed, wpOp P ops Q i (fun a' w' => (i < m → S w') ∧ wpAnyM P md ops Q S m fuel (listed.setIfInBounds i true) a' w') a w
theorem wpAny_of_M : ∀ (fuel : Nat) (listed : Array Bool) (a : Act) (w : World), wpAnyM P md ops Q S m fuel listed a w → wpAny P md ops Q fuel listed a w
  | 0, _, _, _, h => h
  | fuel + 1, _, _, _, h => ⟨h.1, fun i hi => wpOp_mono (fun a' w' h' => wpAny_of_M fuel _ a' w' h'.2) (h.2 i hi)⟩
theorem wpAnyM_first {i : Nat} {oi : Oper} {v : Value} (hi : ops[i]? = some oi) (hsel : ∀ (j : Nat) (o : Oper) cs b, ops[j]? = some o → o.op ≠ .select cs b)
    (hQ : ∀ c a w, Q (.panic c) (a.put oi.dst v) w → Q (.panic c) a w)
    (hw : ∀ t ot, ops[t]? = some ot → m ≤ t → ∃ e ∈ ot.after, Region.binds md e = true ∧ e.on = i) (him : i < m) :
    ∀ (fuel : Nat) (listed : Array Bool) (a : Act) (w : World),
      (∀ j oj, ops[j]? = some oj → j ≠ i → listed.getD j true = false → (∀ e ∈ oj.after, Region.binds md e = true → e.on ≠ i) → oi.apart ops oj = true) →
      i ∈ Region.ready md ops listed → YieldsIf P ops S oi v a → S w →
      wpAnyM P md ops Q S m fuel (listed.setIfInBounds i true) (a.put oi.dst v) w → wpAnyM P md ops Q S m (fuel + 1) listed a w := by
  intro fuel
  induction fuel with
  | zero =>
    intro listed a w _ hr hy hS H
    refine ⟨fun h => (by rw [h] at hr; cases hr), fun j hj => ?_⟩
    by_cases hji : j = i
    · subst hji; exact hy.wpOp hi hS ⟨fun _ => hS, H⟩
    · have := ready_mono hj hji
      rw [H.1] at this
      cases this
  | succ fuel ih =>
    intro listed a w hfree hr hy hS H
    refine ⟨fun h => (by rw [h] at hr; cases hr), fun j hj => ?_⟩
    by_cases hji : j = i
    · subst hji; exact hy.wpOp hi hS ⟨fun _ => hS, H⟩
    · have h1 := H.2 j (ready_mono hj hji)
      obtain ⟨hjun, oj, hoj, hall⟩ := mem_ready.1 hj
      have hnot : ∀ e ∈ oj.after, Region.binds md e = true → e.on ≠ i := fun e he hb heq => by
        have h1 := hall e he hb
        have h0 := (mem_ready.1 hr).1
        rw [heq] at h1
        rcases Nat.lt_or_ge i listed.size with h' | h'
        · simp [h'] at h0 h1; rw [h0] at h1; cases h1
        · simp [Array.getElem?_eq_none h'] at h1
      have hjm : j < m := by
        rcases Nat.lt_or_ge j m with h | h
        · exact h
        · obtain ⟨e, he, hb, hon⟩ := hw j oj hoj h
          exact absurd hon (hnot e he hb)
      have h2 := wpOp_putIf hoj (hfree j oj hoj hji hjun hnot) (fun cs b => hsel i oi cs b hi) (fun cs b => hsel j oj cs b hoj) hQ hy h1
      have hfree' : ∀ k ok, ops[k]? = some ok → k ≠ i → (listed.setIfInBounds j true).getD k true = false →
          (∀ e ∈ ok.after, Region.binds md e = true → e.on ≠ i) → oi.apart ops ok = true := fun k ok hk hki hun hno => by
        refine hfree k ok hk hki ?_ hno
        by_cases hjk : j = k
        · subst hjk; exact hjun
        · rw [getD_set_ne true hjk] at hun; exact hun
      refine wpOp_mono (fun a' w' h3 => ⟨h3.2.1, ih (listed.setIfInBounds j true) a' w' hfree' (ready_mono hr (Ne.symm hji)) h3.1 (h3.2.1 hjm) ?_⟩) h2
      rw [Array.setIfInBounds_comm _ _ hji]
      exact h3.2.2
def waitB (md : Region.Mode) (ops : Array Oper) (m i : Nat) : Bool := decide (i < m) && (List.range ops.size).all fun t => decide (t < m) || Region.waitsFor md ops t i
theorem waitB_spec {i : Nat} (h : waitB md ops m i = true) : i < m ∧ ∀ t ot, ops[t]? = some ot → m ≤ t → ∃ e ∈ ot.after, Region.binds md e = true ∧ e.on = i := by
  simp only [waitB, Bool.and_eq_true, decide_eq_true_eq] at h
  refine ⟨h.1, fun t ot ht hm => ?_⟩
  have h1 := List.all_eq_true.1 h.2 t (List.mem_range.2 (Array.getElem?_eq_some_iff.1 ht).1)
  simp only [Bool.or_eq_true, decide_eq_true_eq] at h1
  rcases h1 with h1 | h1
  · omega
  · obtain ⟨oj, hoj, e, he, hb⟩ := Region.waitsFor_spec h1
    rw [ht] at hoj
    injection hoj with hoj
    subst hoj
    exact ⟨e, he, hb⟩
theorem wpAnyM_take {i : Nat} {oi : Oper} {v : Value} {fuel : Nat} {listed : Array Bool} {a : Act} {w : World} (hi : ops[i]? = some oi)
    (hs : Region.noSelect ops = true) (hf : Region.free md ops listed i = true) (hr : (Region.ready md ops listed).contains i = true) (hw : waitB md ops m i = true)
    (hQ : ∀ c a w, Q (.panic c) (a.put oi.dst v) w → Q (.panic c) a w) (hS : S w) (hy : YieldsIf P ops S oi v a)
    (h : wpAnyM P md ops Q S m fuel (listed.setIfInBounds i true) (a.put oi.dst v) w) : wpAnyM P md ops Q S m (fuel + 1) listed a w :=
  wpAnyM_first hi (Region.noSelect_spec hs) hQ (waitB_spec hw).2 (waitB_spec hw).1 fuel listed a w (Region.free_spec hi hf) (by simpa using hr) hy hS h
theorem oper_back {o : Oper} {a : Act} {w : World} {K K' : Act → World → Prop} (hh : o.wp P a w K (Exit.then K' Q)) : o.wp P a w K Q := by
  unfold Oper.wp at *
  generalize (execOp a.eval o).run P w = r at *
  cases r with
  | ok n w' =>
    cases n <;> simp only [Oper.upon] at hh ⊢ <;>
      first
        | exact hh
        | exact Calls.mono hh (fun e w'' he => by cases e <;> exact he)
  | halt x w' => cases x <;> simp only [Oper.upon] at hh ⊢ <;> exact hh
theorem wpAnyM_one {i : Nat} {o : Oper} {fuel : Nat} {listed : Array Bool} {a : Act} {w : World} (ho : ops[i]? = some o) (hr : Region.ready md ops listed = [i])
    (h : ∀ K' : Act → World → Prop, Hid (∀ a w, (i < m → S w) → wpAnyM P md ops Q S m fuel (listed.setIfInBounds i true) a w → K' a w) → wpList P ops (Exit.then K' Q) [o] a w) : wpAnyM P md ops Q S m (fuel + 1) listed a w := by
  refine ⟨fun h0 => (by rw [hr] at h0; cases h0), fun j hj => ?_⟩
  rw [hr] at hj
  obtain rfl := List.mem_singleton.1 hj
  have h1 := h (fun a' w' => (j < m → S w') ∧ wpAnyM P md ops Q S m fuel (listed.setIfInBounds j true) a' w') (fun a w h2 h3 => ⟨h2, h3⟩)
  unfold wpOp
  simp only [ho]
  unfold wpList at h1
  split
  · rename_i hw
    rw [if_pos hw] at h1
    exact h1.imp (fun h => Oper.wp_mono (fun _ _ h => h) (oper_back h)) (fun h => ⟨h.1, h.2⟩)
  · rename_i hw
    rw [if_neg hw] at h1
    exact h1
theorem wpAnyM_two {i j : Nat} {o o' : Oper} {fuel : Nat} {listed : Array Bool} {a : Act} {w : World} (ho : ops[i]? = some o) (ho' : ops[j]? = some o') (hr : Region.ready md ops listed = [i, j])
    (h : ∀ K' : Act → World → Prop, Hid (∀ a w, (i < m → S w) → wpAnyM P md ops Q S m fuel (listed.setIfInBounds i true) a w → K' a w) → wpList P ops (Exit.then K' Q) [o] a w)
    (h' : ∀ K' : Act → World → Prop, Hid (∀ a w, (j < m → S w) → wpAnyM P md ops Q S m fuel (listed.setIfInBounds j true) a w → K' a w) → wpList P ops (Exit.then K' Q) [o'] a w) : wpAnyM P md ops Q S m (fuel + 1) listed a w := by
  have go : ∀ {k : Nat} {o : Oper}, ops[k]? = some o → (∀ K' : Act → World → Prop, Hid (∀ a w, (k < m → S w) → wpAnyM P md ops Q S m fuel (listed.setIfInBounds k true) a w → K' a w) → wpList P ops (Exit.then K' Q) [o] a w) →
      wpOp P ops Q k (fun a' w' => (k < m → S w') ∧ wpAnyM P md ops Q S m fuel (listed.setIfInBounds k true) a' w') a w := by
    intro k o ho h
    have h1 := h (fun a' w' => (k < m → S w') ∧ wpAnyM P md ops Q S m fuel (listed.setIfInBounds k true) a' w') (fun a w h2 h3 => ⟨h2, h3⟩)
    unfold wpOp
    simp only [ho]
    unfold wpList at h1
    split
    · rename_i hw
      rw [if_pos hw] at h1
      exact h1.imp (fun h => Oper.wp_mono (fun _ _ h => h) (oper_back h)) (fun h => ⟨h.1, h.2⟩)
    · rename_i hw
      rw [if_neg hw] at h1
      exact h1
  refine ⟨fun h0 => (by rw [hr] at h0; cases h0), fun k hk => ?_⟩
  rw [hr] at hk
  rcases List.mem_cons.1 hk with rfl | hk
  · exact go ho h
  · obtain rfl := List.mem_singleton.1 hk
    exact go ho' h'
theorem wpAnyM_done {listed : Array Bool} {a : Act} {w : World} (hr : Region.ready md ops listed = []) (h : Q .normal a w) : ∀ fuel, wpAnyM P md ops Q S m fuel listed a w
  | 0 => ⟨hr, h⟩
  | _ + 1 => ⟨fun _ => h, by rw [hr]; simp⟩
theorem wp_region_mix {id : Nat} {a : Act} {w : World} (m : Nat) (S : World → Prop) (hm : P.follows .mixedOrders = true)
    (h : wpAnyM P .any ops Q S m ops.size (Array.replicate ops.size false) a w.drew) : (Code.region id ops true).wp P Q a w :=
  wp_region_any hm (wpAny_of_M _ _ _ _ h)
end
end Go.Proofs.Ytnhdfjcecgjlgaa.Mq
