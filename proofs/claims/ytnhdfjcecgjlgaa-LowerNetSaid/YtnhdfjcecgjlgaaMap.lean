/- Words of this work: maps of a call's own. Nothing here names the program. -/
import Derived.Test.YtnhdfjcecgjlgaaMq
import Derived.Maps.Keyed
import Derived.DeepKeys5
import Derived.Carry
namespace Go.Proofs.Ytnhdfjcecgjlgaa.Map
open Go.RowKit Go.Proofs.Ytnhdfjcecgjlgaa.Mq
set_option linter.unusedVariables false
set_option linter.unusedSectionVars false
set_option linter.unusedSimpArgs false
def upd {κ β : Type} [DecidableEq κ] (f : κ → Option β) (x : κ) (y : β) : κ → Option β := fun z => if z = x then some y else f z
theorem upd_self {κ β : Type} [DecidableEq κ] (f : κ → Option β) (x : κ) (y : β) : upd f x y x = some y := by simp [upd]
theorem upd_ne {κ β : Type} [DecidableEq κ] (f : κ → Option β) {x z : κ} (y : β) (h : z ≠ x) : upd f x y z = f z := by simp [upd, h]
structure KeyOf (P : Program) (k : TypeId) {κ : Type} (ke : κ → Value) (okk : κ → Prop) : Prop where
  law : Go.Maps.Keyed P k
  tells : ∀ x, okk x → ∃ l, keyOf P k (ke x) = some l
  inj : ∀ x y, ke x = ke y → x = y
def MapIs {κ β : Type} (ke : κ → Value) (ve : β → Value) (okk : κ → Prop) (w : World) (g n : Nat) (f : κ → Option β) : Prop :=
  ∃ (es : Array MapEntry) (clock : Nat), w.heap[g]? = some (.map es clock) ∧ es.size = n ∧ (es.toList.map (·.key)).Nodup ∧ (∀ e ∈ es.toList, ∃ x y, okk x ∧ e.key = ke x ∧ e.val = ve y ∧ f x = some y) ∧ ∀ x y, f x = some y → ∃ e ∈ es.toList, e.key = ke x ∧ e.val = ve y
def mapOf {κ β : Type} (ke : κ → Value) (ve : β → Value) (okk : κ → Prop) (g n : Nat) (f : κ → Option β) : Asr where
  P := fun w _ S => S g ∧ MapIs ke ve okk w g n f
  mono := fun _ hS h => ⟨hS _ h.1, h.2⟩
  move := fun hm ⟨h1, es, c, h2, h3⟩ => ⟨h1, es, c, (hm _ (.inr h1)).trans h2, h3⟩
  bound := fun h => ⟨⟨h.1, by
    obtain ⟨_, es, c, h2, _⟩ := h
    rcases Nat.lt_or_ge g _ with h1 | h1
    · exact h1
    · rw [Array.getElem?_eq_none h1] at h2; cases h2⟩, h.2⟩
  join := fun _ h => ⟨.inr h.1, h.2⟩
section
variable {P : Program} {k t e : TypeId} {κ β : Type} [DecidableEq κ] {ke : κ → Value} {ve : β → Value} {okk : κ → Prop} {w : World} {g n : Nat} {f : κ → Option β}
theorem MapIs.empty (w : World) : MapIs ke ve okk (w.alloc (.map #[] 0)) w.heap.size 0 (fun _ => none) :=
  ⟨#[], 0, heap_alloc_new w _, rfl, by simp, by simp, by simp⟩
theorem MapIs.found (K : KeyOf P k ke okk) (h : MapIs ke ve okk w g n f) {x : κ} (hx : okk x) : ∃ (es : Array MapEntry) (clock : Nat), w.heap[g]? = some (.map es clock) ∧ (∀ em, (Instr.checkKey em 10000 k (ke x)).run P w = .ok () w) ∧
    ((f x = none ∧ (Instr.findKey k (ke x) es.toList).run P w = .ok none w) ∨ ∃ j y, f x = some y ∧ (Instr.findKey k (ke x) es.toList).run P w = .ok (some (j, ve y)) w) := by
  obtain ⟨es, clock, h1, h2, h3, h4, h5⟩ := h
  obtain ⟨lx, hlx⟩ := K.tells x hx
  refine ⟨es, clock, h1, fun em => K.law.check w em hlx, ?_⟩
  rcases K.law.find w hlx es.toList (fun e he => by
    obtain ⟨x', y, ho, hk, _⟩ := h4 e he
    rw [hk]; exact K.tells x' ho) with ⟨h6, h7⟩ | ⟨j, e', h6, h7, h8⟩
  · refine .inl ⟨?_, h6⟩
    cases hf : f x with
    | none => rfl
    | some y => obtain ⟨e, he, hk, _⟩ := h5 x y hf; exact absurd hk (h7 e he)
  · obtain ⟨x', y, ho, hk, hv, hf⟩ := h4 e' (List.mem_of_getElem? h7)
    have := K.inj _ _ (hk.symm.trans h8)
    subst this
    exact .inr ⟨j, y, hf, by rw [← hv]; exact h6⟩
theorem MapIs.lookup (K : KeyOf P k ke okk) (ht : P.underlying t = some (.map k e)) (h : MapIs ke ve okk w g n f) {x : κ} (hx : okk x) {z : Value} (hz : (zeroValue e).run P w = .ok z w) (ok : Bool) :
    (Instr.lookup t (.map (some g)) (ke x) ok).run P w = .ok (if ok then .tuple #[(f x).elim z ve, .bool (f x).isSome] else (f x).elim z ve) w := by
  obtain ⟨es, clock, h1, h2, h3⟩ := h.found K hx
  rcases h3 with ⟨h4, h5⟩ | ⟨j, y, h4, h5⟩
  · cases ok <;> simp [Instr.lookup, run_underlying ht, MapKept.run_getObj_map h1, h2, h5, hz, h4, Result.andThen]
  · cases ok <;> simp [Instr.lookup, run_underlying ht, MapKept.run_getObj_map h1, h2, h5, h4, Result.andThen]
theorem grown_set {w : World} {g : Nat} {o : Obj} : w.grownBy { w with heap := w.heap.setIfInBounds g o } (some g) :=
  ⟨rfl, rfl, rfl, by simp, fun k _ hk => by simp only [Array.getElem?_setIfInBounds]; rw [if_neg (fun e => hk (by rw [e]))]⟩
theorem MapIs.update (K : KeyOf P k ke okk) (ht : P.underlying t = some (.map k e)) (h : MapIs ke ve okk w g n f) {x : κ} (hx : okk x) (y : β) :
    ∃ w', (Instr.mapUpdate t (.map (some g)) (ke x) (ve y)).run P w = .ok () w' ∧ w.grownBy w' (some g) ∧ MapIs ke ve okk w' g (if (f x).isSome then n else n + 1) (upd f x y) := by
  obtain ⟨es, clock, h1, hn, h3, h4, h5⟩ := h
  obtain ⟨lx, hlx⟩ := K.tells x hx
  have hlt : g < w.heap.size := (Array.getElem?_eq_some_iff.1 h1).1
  have hset : ∀ o : Obj, ({ w with heap := w.heap.setIfInBounds g o } : World).heap[g]? = some o := fun o => by simp [hlt]
  rcases K.law.find w hlx es.toList (fun e he => by
    obtain ⟨x', y, ho, hk, _⟩ := h4 e he
    rw [hk]; exact K.tells x' ho) with ⟨h6, h7⟩ | ⟨j, e0, h6, h7, h8⟩
  · have hfx : f x = none := by
      cases hf : f x with
      | none => rfl
      | some y => obtain ⟨e, he, hk, _⟩ := h5 x y hf; exact absurd hk (h7 e he)
    refine ⟨{ w with heap := w.heap.setIfInBounds g (.map (es.push { key := ke x, val := ve y, born := clock }) (clock + 1)) }, ?_, grown_set, es.push _, clock + 1, hset _, by simp [hfx, hn], ?_, ?_, ?_⟩
    · simp [Instr.mapUpdate, run_underlying ht, MapKept.run_getObj_map h1, K.law.check w false hlx, h6, MapKept.run_setObj_map _ h1, Result.andThen]
    · rw [Array.toList_push, List.map_append, List.nodup_append]
      exact ⟨h3, by simp, fun a ha b hb => by
        obtain ⟨e, he, rfl⟩ := List.mem_map.1 ha
        simp at hb
        subst hb
        exact h7 e he⟩
    · intro e he
      rw [Array.toList_push] at he
      rcases List.mem_append.1 he with he | he
      · obtain ⟨x', y', ho, hk, hv, hf⟩ := h4 e he
        exact ⟨x', y', ho, hk, hv, by rw [upd_ne f y (fun e1 => h7 e he (by rw [hk, e1]))]; exact hf⟩
      · simp at he
        subst he
        exact ⟨x, y, hx, rfl, rfl, upd_self f x y⟩
    · intro x' y' hf
      rw [Array.toList_push]
      by_cases e1 : x' = x
      · subst e1
        rw [upd_self] at hf
        injection hf with hf
        subst hf
        exact ⟨_, List.mem_append_right _ (.head _), rfl, rfl⟩
      · rw [upd_ne f y e1] at hf
        obtain ⟨e, he, hk, hv⟩ := h5 x' y' hf
        exact ⟨e, List.mem_append_left _ he, hk, hv⟩
  · have hj : es[j]? = some e0 := by simpa using h7
    have hjl : j < es.toList.length := (List.getElem?_eq_some_iff.1 h7).1
    obtain ⟨x0, y0, ho0, hk0, hv0, hf0⟩ := h4 e0 (List.mem_of_getElem? h7)
    have := K.inj _ _ (hk0.symm.trans h8)
    subst this
    have hlist : (es.modify j (fun e' => { e' with key := ke x0, val := ve y })).toList = es.toList.set j { e0 with key := ke x0, val := ve y } := by
      rw [Array.toList_modify]
      apply List.ext_getElem?
      intro i
      rw [List.getElem?_modify, List.getElem?_set]
      by_cases hi : j = i
      · subst hi
        have hjs : j < es.size := by simpa using hjl
        rw [h7]
        simp [hjs]
      · simp [hi]
    refine ⟨{ w with heap := w.heap.setIfInBounds g (.map (es.modify j (fun e' => { e' with key := ke x0, val := ve y })) clock) }, ?_, grown_set, _, clock, hset _, by simp [hf0, hn], ?_, ?_, ?_⟩
    · simp [Instr.mapUpdate, run_underlying ht, MapKept.run_getObj_map h1, K.law.check w false hlx, h6, hj, hk0, K.law.stays w hlx, MapKept.run_setObj_map _ h1, Result.andThen]
    · rw [hlist, List.map_set]
      have : (es.toList.map (·.key)).set j (ke x0) = es.toList.map (·.key) := by
        apply List.ext_getElem?
        intro i
        rw [List.getElem?_set]
        by_cases hi : j = i
        · subst hi
          rw [if_pos rfl, if_pos (by simpa using hjl), List.getElem?_map, h7]
          simp [hk0]
        · rw [if_neg hi]
      rw [this]; exact h3
    · intro e he
      rw [hlist] at he
      obtain ⟨i, hi, rfl⟩ := List.mem_iff_getElem.1 he
      rw [List.getElem_set]
      by_cases hij : j = i
      · subst hij
        simp only [if_true]
        exact ⟨x0, y, hx, rfl, rfl, upd_self f x0 y⟩
      · rw [if_neg hij]
        have hi' : i < es.toList.length := by simpa using hi
        obtain ⟨x', y', ho, hk, hv, hf⟩ := h4 _ (List.getElem_mem hi')
        refine ⟨x', y', ho, hk, hv, ?_⟩
        have hne : x' ≠ x0 := by
          rintro rfl
          apply hij
          have h9 := (List.getElem?_inj (i := j) (j := i) (l := es.toList.map (·.key)) (by simpa using hjl) h3).1 (by
            rw [List.getElem?_map, List.getElem?_map, h7, List.getElem?_eq_getElem hi']
            show some e0.key = some es.toList[i].key
            rw [hk0, hk])
          exact h9
        rw [upd_ne f y hne]; exact hf
    · intro x' y' hf
      rw [hlist]
      by_cases e1 : x' = x0
      · subst e1
        rw [upd_self] at hf
        injection hf with hf
        subst hf
        exact ⟨_, List.mem_iff_getElem.2 ⟨j, by simpa using hjl, by rw [List.getElem_set_self]⟩, rfl, rfl⟩
      · rw [upd_ne f y e1] at hf
        obtain ⟨e, he, hk, hv⟩ := h5 x' y' hf
        obtain ⟨i, hi, rfl⟩ := List.mem_iff_getElem.1 he
        have hij : j ≠ i := by
          rintro rfl
          rw [List.getElem?_eq_getElem hi] at h7
          injection h7 with h7
          rw [h7, hk0] at hk
          exact e1 (K.inj _ _ hk).symm
        exact ⟨_, List.mem_iff_getElem.2 ⟨i, by simpa using hi, rfl⟩, by rw [List.getElem_set_ne hij]; exact hk, by rw [List.getElem_set_ne hij]; exact hv⟩
end
section
variable {P : Program} {k t e : TypeId} {κ β : Type} [DecidableEq κ] {ke : κ → Value} {ve : β → Value} {okk : κ → Prop} {g n : Nat} {f : κ → Option β}
variable {ops : Array Oper} {rest : List Oper} {o : Oper} {a : Act} {Q : Exit → Act → World → Prop} {M Z : Nat → Prop} {w0 W : World} {R l : List Asr}
theorem wp_makeMap (H : MemM M Z w0 W R l) (ke : κ → Value) (ve : β → Value) (okk : κ → Prop) (hgd : o.guard = none) (ho : o.op = .makeMap t none)
    (h : ∀ g W1, MemM M Z w0 W1 R (mapOf ke ve okk g 0 (fun _ => none) :: l) → wpList P ops Q rest (a.put o.dst (.map (some g))) W1) : wpList P ops Q (o :: rest) a W := by
  refine wpList_plain hgd fun K hK => ?_
  unfold Oper.wp
  simp [execOp, ho, run_makeMap, Result.andThen]
  exact hK _ _ (h _ _ (H.new (World.grownBy_alloc W _ none) ⟨Nat.le_refl _, MapIs.empty W⟩))
theorem wp_lookup (K : KeyOf P k ke okk) (hm : mapOf ke ve okk g n f ∈ l) (H : MemM M Z w0 W R l) (hgd : o.guard = none) (x y : Operand) (ok : Bool) (ho : o.op = .lookup t x y ok) (ht : P.underlying t = some (.map k e))
    {z : Value} (hz : ∀ W, (zeroValue e).run P W = .ok z W) (hx : a.eval x = .map (some g)) (q : κ) (hy : a.eval y = ke q) (hq : okk q)
    (h : wpList P ops Q rest (a.put o.dst (if ok then .tuple #[(f q).elim z ve, .bool (f q).isSome] else (f q).elim z ve)) W) : wpList P ops Q (o :: rest) a W := by
  obtain ⟨F, S, _, _, _, _, h2⟩ := H.item hm
  refine wpList_plain hgd fun K' hK => ?_
  unfold Oper.wp
  simp [execOp, ho, hx, hy, h2.lookup K ht hq (hz W) ok, Result.andThen]
  exact hK _ _ (by simpa using h)
theorem wp_mapUpdate (K : KeyOf P k ke okk) (H : MemM M Z w0 W R (mapOf ke ve okk g n f :: l)) (hgd : o.guard = none) (m x y : Operand) (ho : o.op = .mapUpdate t m x y) (ht : P.underlying t = some (.map k e))
    (hm : a.eval m = .map (some g)) (q : κ) (hx : a.eval x = ke q) (hq : okk q) (r : β) (hy : a.eval y = ve r)
    (h : ∀ W1, MemM M Z w0 W1 R (mapOf ke ve okk g (if (f q).isSome then n else n + 1) (upd f q r) :: l) → wpList P ops Q rest (a.put o.dst undef) W1) : wpList P ops Q (o :: rest) a W := by
  obtain ⟨F, S, h1, h2, h3, h4, h5, h6⟩ := H.open1
  obtain ⟨w', hr, hg, hM⟩ := h1.2.update K ht hq r
  refine wpList_plain hgd fun K' hK => ?_
  unfold Oper.wp
  simp [execOp, ho, hm, hx, hy, hr, Result.andThen]
  exact hK _ _ (h _ (h6 w' _ (some g) hg (fun k hk => by cases hk; exact h1.1) ⟨.inl h1.1, hM⟩))
end
end Go.Proofs.Ytnhdfjcecgjlgaa.Map
