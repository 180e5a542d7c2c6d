/- From a walk of a law to_ its row; and how arguments, read as data, lie in memory (Rep). Nothing here names the program. -/
import Derived.ProofKit
import Derived.SizedLaws
import Derived.Deep.Slices
import Derived.Test.YtbclogifkifaaaaDoorMq
namespace Go.Proofs.YtbclogifkifaaaaDoor.Open
open Go.ChangeShapes Go.WideShapes Go.ChangeAt Go.RowKit Go.Proofs.YtbclogifkifaaaaDoor.Mq
set_option linter.unusedVariables false

theorem wf_lohi {k : IntKind} {x lo hi : Int} (h : (Lit.int k x).wf = true) (h1 : k.min = lo := by rfl) (h2 : k.max = hi := by rfl) : lo ≤ x ∧ x ≤ hi := by
  unfold Lit.wf at h
  rw [Bool.and_eq_true, decide_eq_true_eq, decide_eq_true_eq, h1, h2] at h
  exact h
theorem wf_u8' {x : Int} (h : (Lit.int .u8 x).wf = true) : 0 ≤ x ∧ x ≤ 255 := wf_lohi h
theorem trodAll_stays {H : Type} {enc : TypeId × Value → H} {P : Program} (hl : laidOutB P = true) {W W' : World} (hb : Below W.heap.size W W') :
    ∀ {ts : List TypeId} {vs : List Value} {ds : List (DataW H)} {ps : List MemPlace}, (∀ t ∈ ts, P.readableRec t = true ∧ t < P.types.size) → DataW.TrodAll enc P W 0 (fun _ => true) true ts vs ds ps →
      ∃ ps', DataW.TrodAll enc P W' 0 (fun b => decide (b < W.heap.size)) true ts vs ds ps'
  | [], vs, ds, ps, _, h => by
    cases vs <;> cases ds <;> simp [DataW.TrodAll] at h
    exact ⟨[], rfl⟩
  | t :: ts, vs, ds, ps, ht, h => by
    obtain ⟨v, vs', d, ds', p, q, rfl, rfl, rfl, h1, h2⟩ := trodAll_cons h
    obtain ⟨q', h3⟩ := trodAll_stays hl hb (fun t h => ht t (List.mem_cons_of_mem _ h)) h2
    have k := h1
    have lt : ∀ x ∈ p, x.block < W.heap.size := by obtain ⟨m, hm⟩ := k; exact DataW.trod_lt m _ _ _ hm
    exact ⟨p ++ q', p, q', Below.trod hl (ht t List.mem_cons_self).1 (ht t List.mem_cons_self).2 h1 hb lt, h3, rfl⟩

/-! ### opening -/
section
variable {H : Type} (enc : TypeId × Value → H) (P : Program) (w : World) (base : Nat) (spare : Nat → Bool) (held : Bool)
end
section
variable {H : Type} {enc : TypeId × Value → H} {P : Program} {w : World} {base : Nat} {spare : Nat → Bool} {held : Bool}
/-- A slice's datum, element by element. -/
def OkRow {α : Type} (ok : α → DataW H → Prop) (ys : List α) (D : DataW H) : Prop :=
  (D = .nil ∧ ys = []) ∨ ∃ es rest, D = .slice es rest ∧ es.length = ys.length ∧ ∀ (i : Nat) y e, ys[i]? = some y → es[i]? = some e → ok y e
theorem OkRow.all {α : Type} {ok : α → DataW H → Prop} {ys : List α} {D : DataW H} (h : OkRow ok ys D) : ∀ y ∈ ys, ∃ e, ok y e := by
  intro y hy
  rcases h with ⟨_, rfl⟩ | ⟨es, rest, _, hl, h⟩
  · cases hy
  · obtain ⟨i, hi, rfl⟩ := List.mem_iff_getElem.1 hy
    exact ⟨es[i], h i _ _ (List.getElem?_eq_getElem hi) (List.getElem?_eq_getElem (by omega))⟩
end
end Go.Proofs.YtbclogifkifaaaaDoor.Open
