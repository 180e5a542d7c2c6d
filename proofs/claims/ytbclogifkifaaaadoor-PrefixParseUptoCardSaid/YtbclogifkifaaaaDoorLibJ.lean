/- strings.Join, with the frame that the printer asks. -/
import Derived.Test.YtbclogifkifaaaaDoorLibs
namespace Go.Proofs.YtbclogifkifaaaaDoor.Libs
open Go.RowKit Go.Proofs.YtbclogifkifaaaaDoor.Inv
open Go.Proofs.YtbclogifkifaaaaDoorW.PrintWords (Kd encs)
set_option linter.unusedVariables false
set_option linter.unusedSimpArgs false
theorem join_calls (A : Option Addr) (c : Nat) (xs : List ByteArray) (sep : ByteArray) (w : World) (hr : Kd.C Kd.string w A xs.length xs) (hc : xs.length ≤ c) (hN : xs.length ≤ 140737488355328) (hlen : (Lib.join (xs.map (·.data.toList)) sep.data.toList).length ≤ 140737488355328) :
    Calls Tryd.prog 17 #[.slice A xs.length c, .string sep] w fun e w' => e = .returned (.string ⟨(Lib.join (xs.map (·.data.toList)) sep.data.toList).toArray⟩) ∧ Below w.heap.size w w' := by
  rcases Nat.eq_zero_or_pos xs.length with h | h
  · obtain rfl : xs = [] := List.length_eq_zero_iff.1 h
    refine (Tryd.strings_Join_none A c sep w).mono fun e w' ⟨he, hw⟩ => ⟨he, hw ▸ Below.refl _ _⟩
  · obtain ⟨ad, rfl, hcell⟩ := hr.2.2 h
    have hat : ∀ (j : Nat) x, xs[j]? = some x → w.cell? (ad.add j) = some (.string x) := by
      intro j x hj
      obtain ⟨cs, h1, h2, h3⟩ := hcell j x hj
      have h2' : cs = [.string x] := h2
      subst h2'
      have := h3 0 (.string x) rfl
      simpa [Kd.string, Kd.scalar] using this
    obtain ⟨x, hx⟩ : ∃ x, xs[0]? = some x := ⟨_, List.getElem?_eq_getElem h⟩
    have h0 := hat 0 x hx
    obtain ⟨b, o, sp⟩ := ad
    have hsp : sp = none := by
      cases sp with
      | none => rfl
      | some q =>
        simp only [Addr.add, if_pos rfl] at h0
        unfold World.cell? at h0
        split at h0 <;> simp at h0
    subst hsp
    refine Tryd.strings_Join b o c xs sep w (fun j x hj => ?_) (World.block_lt_of_cell? w _ h0) hN hc hlen
    have := hat j x hj
    unfold Addr.add at this
    split at this
    · rename_i e; subst e; exact this
    · exact this
end Go.Proofs.YtbclogifkifaaaaDoor.Libs
