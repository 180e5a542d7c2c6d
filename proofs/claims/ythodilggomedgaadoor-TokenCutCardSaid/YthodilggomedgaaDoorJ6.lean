/- Texts of this work, joined: TokD, Open, OpenK. -/
import Derived.Test.YthodilggomedgaaDoorTokC
import Derived.Test.YthodilggomedgaaDoorPTkx26
import Derived.ProofKit
import Derived.SizedLaws
import Derived.Deep.Slices
import Derived.Test.YthodilggomedgaaDoorMq
import Derived.Test.YthodilggomedgaaDoorRows
import Derived.Test.YthodilggomedgaaDoorWWords
import Derived.Deep.CondSized
section
namespace Go.Proofs.YthodilggomedgaaDoor.TokD
open Go.RowKit Go.Proofs.YthodilggomedgaaDoor.PTk Go.Proofs.YthodilggomedgaaDoorW.PrintWords Go.Proofs.YthodilggomedgaaDoorW.PrintLast Go.Proofs.YthodilggomedgaaDoorW.PrintMore Go.Proofs.YthodilggomedgaaDoor.Dec Go.Proofs.YthodilggomedgaaDoor.TokM Go.Proofs.YthodilggomedgaaDoor.TokP Go.Proofs.YthodilggomedgaaDoor.TokC
set_option linter.unusedVariables false
set_option linter.unusedSimpArgs false
set_option linter.all false
theorem same_l (l : List S33) (hl : l.length < 9223372036854775807) : ∀ d i k, i + d = l.length → d < k → maquettelaw06_Same.l0 k l l (l.length : Int) (i : Int) = some true
  | 0, i, k, hi, hk => by
    obtain ⟨k, rfl⟩ : ∃ q, k = q + 1 := ⟨k - 1, by omega⟩
    rw [maquettelaw06_Same.l0, if_neg (by omega)]
  | d + 1, i, k, hi, hk => by
    obtain ⟨k, rfl⟩ : ∃ q, k = q + 1 := ⟨k - 1, by omega⟩
    rw [maquettelaw06_Same.l0, if_pos (by omega), if_pos (by omega), if_pos (by omega), if_pos (by omega), if_neg (by simp), w1 (by omega)]
    exact same_l l hl d (i + 1) k (by omega) (by omega)
theorem same_f (l : List S33) (hl : l.length < 9223372036854775807) {k : Nat} (hk : l.length < k) : maquettelaw06_Same.f k l l = some true := by
  unfold maquettelaw06_Same.f
  rw [if_pos rfl]
  exact same_l l hl l.length 0 k (by omega) hk
theorem ltokcut (s : ByteArray) : ∃ k, maquettelaw06_TokenCut.f k s = some true := by
  by_cases h4 : (s.size : Int) > 4000
  · refine ⟨60, ?_⟩
    unfold maquettelaw06_TokenCut.f
    rw [awake_at (by omega), Option.bind_some, if_pos rfl, if_pos h4]
  · rcases cut_all s (by omega) with ⟨ts, hl, h1, ⟨K1, h2⟩, ⟨K2, h3⟩⟩ | ⟨q, h1, ⟨K1, h2⟩, ⟨K2, h3⟩⟩
    · refine ⟨60 + K1 + K2 + s.size + 10, ?_⟩
      have hz' : (ts ++ [eof s]).length = ts.length + 1 := by simp
      have hz : (ts ++ [eof s]).length < 60 + K1 + K2 + s.size + 10 := by omega
      unfold maquettelaw06_TokenCut.f
      rw [awake_at (by omega), Option.bind_some, if_pos rfl, if_neg h4, h2 _ (by omega), Option.bind_some, h3 _ (by omega), Option.bind_some]
      simp only
      rw [if_neg (by decide), if_pos (by rfl), same_f _ (by omega) hz]
      rfl
    · refine ⟨60 + K1 + K2, ?_⟩
      have en : api_Number.f (some ((q : Int) * 16 + 1)) = some 1 := by
        unfold api_Number.f
        simp only
        congr 1
        omega
      have ep : api_Place.f (some ((q : Int) * 16 + 1)) = some (q : Int) := by
        unfold api_Place.f
        simp only
        congr 1
        omega
      unfold maquettelaw06_TokenCut.f
      rw [awake_at (by omega), Option.bind_some, if_pos rfl, if_neg h4, h2 _ (by omega), Option.bind_some, h3 _ (by omega), Option.bind_some]
      simp only
      rw [if_pos (by omega), if_pos (by rfl), en, Option.bind_some, if_pos rfl, ep, Option.bind_some]
      simp
end Go.Proofs.YthodilggomedgaaDoor.TokD
end
section
namespace Go.Proofs.YthodilggomedgaaDoor.Open
open Go.ChangeShapes Go.WideShapes Go.ChangeAt Go.RowKit Go.Proofs.YthodilggomedgaaDoor.Mq
set_option linter.unusedVariables false

theorem trodAll_stays {H : Type} {enc : TypeId × Value → H} {P : Program} (hl : laidOutB P = true) {W W' : World} (hb : Below W.heap.size W W') :
    ∀ {ts : List TypeId} {vs : List Value} {ds : List (DataW H)} {ps : List MemPlace}, (∀ t ∈ ts, P.readableRec t = true ∧ t < P.types.size) → DataW.TrodAll enc P W 0 (fun _ => true) true ts vs ds ps →
      ∃ ps', DataW.TrodAll enc P W' 0 (fun b => decide (b < W.heap.size)) true ts vs ds ps'
  | [], vs, ds, ps, _, h => by
    cases vs <;> cases ds <;> simp [DataW.TrodAll] at h
    exact ⟨[], rfl⟩
  | t :: ts, vs, ds, ps, ht, h => by
    obtain ⟨v, vs', d, ds', p, q, rfl, rfl, rfl, h1, h2⟩ := trodAll_cons h
    obtain ⟨q', h3⟩ := trodAll_stays hl hb (fun t h => ht t (List.mem_cons_of_mem _ h)) h2
    have k := h1
    have lt : ∀ x ∈ p, x.block < W.heap.size := by obtain ⟨m, hm⟩ := k; exact DataW.trod_lt m _ _ _ hm
    exact ⟨p ++ q', p, q', Below.trod hl (ht t List.mem_cons_self).1 (ht t List.mem_cons_self).2 h1 hb lt, h3, rfl⟩

/-! ### opening -/
section
variable {H : Type} (enc : TypeId × Value → H) (P : Program) (w : World) (base : Nat) (spare : Nat → Bool) (held : Bool)
end
section
variable {H : Type} {enc : TypeId × Value → H} {P : Program} {w : World} {base : Nat} {spare : Nat → Bool} {held : Bool}
/-- A slice's datum, element by element. -/
def OkRow {α : Type} (ok : α → DataW H → Prop) (ys : List α) (D : DataW H) : Prop :=
  (D = .nil ∧ ys = []) ∨ ∃ es rest, D = .slice es rest ∧ es.length = ys.length ∧ ∀ (i : Nat) y e, ys[i]? = some y → es[i]? = some e → ok y e
theorem OkRow.all {α : Type} {ok : α → DataW H → Prop} {ys : List α} {D : DataW H} (h : OkRow ok ys D) : ∀ y ∈ ys, ∃ e, ok y e := by
  intro y hy
  rcases h with ⟨_, rfl⟩ | ⟨es, rest, _, hl, h⟩
  · cases hy
  · obtain ⟨i, hi, rfl⟩ := List.mem_iff_getElem.1 hy
    exact ⟨es[i], h i _ _ (List.getElem?_eq_getElem hi) (List.getElem?_eq_getElem (by omega))⟩
end
end Go.Proofs.YthodilggomedgaaDoor.Open
end
section
namespace Go.Proofs.YthodilggomedgaaDoor.OpenK
open Go.ChangeShapes Go.WideShapes Go.ChangeAt Go.RowKit Go.Proofs.YthodilggomedgaaDoor.Open
open Go.Proofs.YthodilggomedgaaDoorW.PrintWords (Kd)
set_option linter.unusedVariables false

section
variable {H : Type} (enc : TypeId × Value → H) (P : Program) (w : World) (base : Nat) (spare : Nat → Bool) (held : Bool)
end
section
variable {H : Type} {enc : TypeId × Value → H} {P : Program} {w : World} {base : Nat} {spare : Nat → Bool} {held : Bool}
end
section
variable {H : Type} {enc : TypeId × Value → H} {P : Program} {w : World} {base b0 : Nat} {spare : Nat → Bool} {held : Bool}
end
/-! ### bulk -/
theorem bound {H : Type} {l : List (DataW H)} (hk : Rows.uptoSmall H l = true) : Rows.uptoBulkAll l ≤ 1048576 := of_decide_eq_true hk
end Go.Proofs.YthodilggomedgaaDoor.OpenK
end
