/- Words of this work: append of as many zeros. Nothing here names the program. -/
import Derived.Test.YtmegjmiiiecnoaaMq
import Derived.Maps.AppendAt
import Derived.Lib.AppendZerosOnto
namespace Go.Proofs.Ytmegjmiiiecnoaa.Mq
open Go.RowKit
set_option linter.unusedVariables false
set_option linter.unusedSimpArgs false
theorem zeroCells_one {z : Value} (hz : z.cells = #[z]) (m : Nat) : Builtin.zeroCells z.cells m = (List.replicate m z).toArray := by
  apply Array.ext'
  rw [hz]
  apply List.ext_getElem
  · simp [Builtin.zeroCells]
  · intro i h1 h2
    simp [Builtin.zeroCells, Nat.mod_one]
theorem run_zeros {P : Program} (w : World) (base : Nat) (t tn ty e : TypeId) (i : TypeInfo) (z : Value) (bytes : Nat) (k kn : IntKind) (ht : P.underlying t = some (.slice e)) (htn : P.underlying tn = some (.int kn)) (hi : P.info? e = some i) (hz : i.zero = some z)
    (hsize : i.size = 1) (hby : i.bytes = bytes) (hzs : z.cells = #[z]) (hone : z.oneCell' = true) (v : Value) (n : Nat) (xs : List Value) (hown : w.ownsRow base e 1 v n xs) (m : Nat)
    (h63 : n + m ≤ 140737488355328) (hbytes : (n + m) * bytes ≤ 140737488355328) (hbase : base ≤ w.heap.size) :
    ∃ v' w', (Builtin.append_ #[t, tn] ty #[v, .int k m]).run P w = .ok v' w' ∧ w'.ownsRow base e 1 v' (n + m) (xs ++ List.replicate m z) ∧ w.grownBy w' v.ownBlock ∧ (v'.ownBlock = v.ownBlock ∨ v'.ownBlock = some w.heap.size) := by
  subst hby
  have hmax : n + m ≤ maxLen := by simp only [maxLen]; omega
  have hxl : xs.length = n := by have := hown.1; omega
  have hlen : (xs ++ List.replicate m z).length = (n + m) * 1 := by simp [hxl]
  have made : ∀ old, ∀ row : Option Nat, (w.drew.alloc (.cells (xs.toArray ++ Builtin.zeroCells z.cells m ++ Builtin.zeroCells z.cells (grownCap w (n + m) old e - (n + m))) e)).ownsRow base e 1 (.slice (some ⟨w.heap.size, 0, none⟩) (n + m) (grownCap w (n + m) old e)) (n + m) (xs ++ List.replicate m z) ∧
      w.grownBy (w.drew.alloc (.cells (xs.toArray ++ Builtin.zeroCells z.cells m ++ Builtin.zeroCells z.cells (grownCap w (n + m) old e - (n + m))) e)) row := by
    intro old row
    have hge := grownCap_ge w (n + m) old e
    refine ⟨⟨hlen, .inr ⟨w.heap.size, _, _, rfl, hbase, heap_alloc_new w.drew _, hge, grownCap_le_maxLen w (n + m) old e hmax, ?_, ?_⟩⟩, ⟨rfl, rfl, rfl, by simp, fun k' hk h => (World.grownBy_alloc w.drew _ row).block k' hk h⟩⟩
    · rw [zeroCells_one hzs, zeroCells_one hzs]
      simp [hxl]
      omega
    · rw [zeroCells_one hzs, zeroCells_one hzs]
      simp only [Array.toList_append, ← hlen]
      exact List.take_left
  by_cases hm : m = 0
  · subst hm
    refine ⟨v, w, ?_, by simpa using hown, ⟨rfl, rfl, rfl, Nat.le_refl _, fun _ _ _ => rfl⟩, .inl rfl⟩
    rcases hown.2 with ⟨rfl, rfl⟩ | ⟨g, cap, cur, rfl, hbg, hg, hnc, hcm, hcs, htake⟩
    · simp [Builtin.append_, run_underlying ht, run_underlying htn, sizeOf, typeInfo, hi, hz, asInt, asIntOf, IntKind.wrap_i64]
    · simp [Builtin.append_, run_underlying ht, run_underlying htn, sizeOf, typeInfo, hi, hz, asInt, asIntOf, IntKind.wrap_i64, hnc, storeCells]
  · have hm0 : 0 < m := by omega
    have hmb : m * i.bytes ≤ 140737488355328 := Nat.le_trans (Nat.mul_le_mul_right _ (by omega)) hbytes
    rcases hown.2 with ⟨rfl, rfl⟩ | ⟨g, cap, cur, rfl, hbg, hg, hnc, hcm, hcs, htake⟩
    · have hx : xs = [] := List.eq_nil_of_length_eq_zero hxl
      subst hx
      have hr := Go.Lib.run_append_nil_zeros (P := P) w t tn ty e i z k kn ht htn hi hz m hm0 (by omega) (by omega) (by omega)
      have hgr := made 0 (Value.ownBlock (.slice none 0 0))
      simp only [Nat.zero_add, List.nil_append, Array.empty_append] at hgr ⊢
      exact ⟨_, _, hr, hgr.1, hgr.2, Or.inr rfl⟩
    · by_cases hroom : n + m ≤ cap
      · have hst := run_storeCells_at P g (n * 1) e (List.replicate m z) 0 cur w hg (by simp; omega) (fun v hv => by rw [List.eq_of_mem_replicate hv]; exact hone)
        simp only [Nat.add_zero] at hst
        have hw : IntKind.i64.wrap (m : Int) = m := by rw [IntKind.wrap_i64]; omega
        have h48i : ¬ (281474976710656 < (m : Int) * (i.bytes : Int)) := by
          rw [← Int.natCast_mul]
          omega
        have hneg : ¬ ((m : Int) < 0) := by omega
        have hr : (Builtin.append_ #[t, tn] ty #[.slice (some ⟨g, 0, none⟩) n cap, .int k m]).run P w = .ok (.slice (some ⟨g, 0, none⟩) (n + m) cap) (w.setRow g (cur.toList.take (n * 1) ++ List.replicate m z ++ cur.toList.drop (n * 1 + (List.replicate m z).length)).toArray) := by
          simp [Builtin.append_, run_underlying ht, run_underlying htn, sizeOf, typeInfo, zeroValue, hi, hz, asInt, asIntOf, hw, hneg, h48i, hroom, hm, hsize, zeroCells_one hzs, Addr.add_lit]
          have hst' := hst
          simp at hst'
          rw [hst']
          rfl
        refine ⟨_, _, hr, ⟨hlen, .inr ⟨g, cap, _, rfl, hbg, setRow_heap w g cur _ e _ hg, hroom, hcm, ?_, ?_⟩⟩, ⟨rfl, rfl, rfl, by simp, fun k _ hk => setRow_other w g k _ (fun e => hk (by simp [Value.ownBlock, e]))⟩, Or.inl rfl⟩
        · simp only [List.size_toArray, List.length_append, List.length_take, List.length_drop, Array.length_toList, List.length_replicate]
          omega
        · rw [htake, ← hlen]
          exact List.take_left
      · have holds := hown.cells (g := g) rfl
        have hf := run_firstCells_some (P := P) w.drew i.size n ⟨g, 0, none⟩ n cap xs (by rw [hsize]; omega) (by simpa using holds)
        have hr := Go.Lib.run_append_grow_zeros (P := P) w t tn ty e i z k kn ht htn hi hz (some ⟨g, 0, none⟩) n cap xs hf m hm0 (by omega) (by omega) (by omega) (by omega) (growslice_fits (by omega) hbytes)
        have hgr := made cap (Value.ownBlock (.slice (some ⟨g, 0, none⟩) n cap))
        exact ⟨_, _, hr, hgr.1, hgr.2, Or.inr rfl⟩
section
variable {P : Program} {ops : Array Oper} {rest : List Oper} {o : Oper} {a : Act} {Q : Exit → Act → World → Prop} {α : Type} {d : Rep α} {e : Nat} {M Z : Nat → Prop} {w0 W : World} {R l : List Asr} {v : Value} {xs : List α}
/-- append(s, make([]T, m)...): gc's own way with it. -/
theorem wp_zeros (H : MemM M Z w0 W R (own d e v xs :: l)) (hgd : o.guard = none) (s x : Operand) (t tn : TypeId) (kn : IntKind) (z : Value) (bytes : Nat)
    (ho : o.op = .call { callee := .builtin .append, args := #[s, x], argTypes := #[t, tn] }) (ht : P.underlying t = some (.slice e)) (htn : P.underlying tn = some (.int kn)) (hd : d.sz = 1)
    (hinfo : (P.info? e).map (fun i => (i.zero, i.size, i.bytes)) = some (some z, 1, bytes)) (hzs : z.cells = #[z]) (hone : z.oneCell' = true) (z0 : α) (hzero : ∀ W S, d.K W S z0 [z])
    (m : Nat) (hs : a.eval s = v) (hx : a.eval x = .int .i64 m) (hl : xs.length + m ≤ 140737488355328) (hl : (xs.length + m) * bytes ≤ 140737488355328)
    (h : ∀ v1 W1, MemM M Z w0 W1 R (own d e v1 (xs ++ List.replicate m z0) :: l) → wpList P ops Q rest (a.put o.dst v1) W1) :
    wpList P ops Q (o :: rest) a W := by
  obtain ⟨i0, hi, hzz⟩ := Option.map_eq_some_iff.1 hinfo
  simp only [Prod.mk.injEq] at hzz
  obtain ⟨hz0, hz1, hz2⟩ := hzz
  obtain ⟨F, S, ⟨h1, inner, hown, hr⟩, h2, h3, h4, h5, h6⟩ := H.open1
  rw [hd] at hown
  have hrep : ∀ (W : World) (T : Nat → Prop), Reps (d.K W T) d.sz (List.replicate m z0) (List.replicate m z) := by
    intro W T
    clear hx hl h
    induction m with
    | zero => exact Reps.none _ _
    | succ m ih =>
      rw [List.replicate_succ, List.replicate_succ]
      exact Reps.cons (c := [z]) (hzero W T) (by rw [hd]; rfl) (ih (by omega))
  obtain ⟨v1, w1, hrun, hown1, hg, hat⟩ := run_zeros (P := P) W 0 t tn o.type e i0 z bytes .i64 kn ht htn hi hz0 hz1 hz2 hzs hone v xs.length inner hown m (by assumption) (by assumption) (Nat.zero_le _)
  have hat1 : v1.ownBlock = v.ownBlock ∨ ∃ b, v1.ownBlock = some b ∧ W.heap.size ≤ b := by
    rcases hat with hat | hat
    · exact .inl hat
    · exact .inr ⟨_, hat, Nat.le_refl _⟩
  refine wpList_plain hgd fun K hK => ?_
  unfold Oper.wp execOp
  simp only [ho, resolve, invoke, builtin, Sem.run_bind, Sem.run_pure, Result.andThen_ok, List.map_toArray, List.map_cons, List.map_nil, hs, hx, hrun]
  exact hK _ _ (h v1 w1 (h6 w1 _ v.ownBlock hg (fun k hk => h1 k hk) (own_grew h1 (hr.app (hrep _ _)) h2 (by rw [List.length_append, List.length_replicate, hd]; exact hown1) hg hat1)))
end
end Go.Proofs.Ytmegjmiiiecnoaa.Mq
