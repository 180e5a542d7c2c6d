/- Plain law: TokenLong answers true. -/
import Derived.Test.YthodilggomedgaaDoorTokC
import Derived.Test.YthodilggomedgaaDoorPTkx27
namespace Go.Proofs.YthodilggomedgaaDoor.TokG
open Go.RowKit Go.Proofs.YthodilggomedgaaDoor.PTk Go.Proofs.YthodilggomedgaaDoorW.PrintWords Go.Proofs.YthodilggomedgaaDoorW.PrintLast Go.Proofs.YthodilggomedgaaDoorW.PrintMore Go.Proofs.YthodilggomedgaaDoor.Dec Go.Proofs.YthodilggomedgaaDoor.TokM Go.Proofs.YthodilggomedgaaDoor.TokP Go.Proofs.YthodilggomedgaaDoor.TokC
set_option linter.unusedVariables false
set_option linter.unusedSimpArgs false
set_option linter.all false
/-- A text of semicolons alone. -/
theorem semis (x : ByteArray) (hx : x.size ≤ 65536) (h : ∀ j : Nat, j < x.size → bt x (j : Int) = 59) : ∀ d p (a : List S33), p + d = x.size → a.length ≤ p → ∃ ts : List S33, ts.length = a.length + d + 1 ∧ Y x a p (ts, none)
  | 0, p, a, hd, ha => ⟨a ++ [eof x], by simp, Y.eof hx (by omega) (by omega)⟩
  | d + 1, p, a, hd, ha => by
    obtain ⟨ts, h1, h2⟩ := semis x hx h d (p + 1) (a ++ [sg x p]) (by omega) (by simp; omega)
    refine ⟨ts, by rw [h1]; simp; omega, Y.sign hx (by omega) (by omega) (Or.inr (Or.inr (h p (by omega)))) h2⟩
def sx (N : Nat) : ByteArray := strOfNums (List.replicate N 59)
theorem sx_size (N : Nat) : (sx N).size = N := by
  unfold sx strOfNums
  show Array.size _ = _
  simp
theorem sx_at (N j : Nat) (h : j < (sx N).size) : bt (sx N) (j : Int) = 59 := by
  have hL : (sx N).data.toList = List.replicate N (59 : UInt8) := by
    unfold sx strOfNums
    simp
  rw [sx_size] at h
  have := bt_at (t := sx N) (i := j) (b := 59) (by rw [hL, List.getElem?_replicate, if_pos h])
  rw [this]
  rfl
theorem set_rep (i d : Nat) : (List.replicate i (59 : Int) ++ List.replicate (d + 1) (0 : Int)).set i 59 = List.replicate (i + 1) 59 ++ List.replicate d 0 := by
  rw [List.set_append_right _ _ (by simp), List.length_replicate, Nat.sub_self, List.replicate_succ, List.set_cons_zero, List.replicate_succ' (n := i), List.append_assoc]
  rfl
theorem fill (N : Nat) (hN : N < 9223372036854775807) {R : Bool} (h : ∃ k, maquettelaw06_TokenLong.l0 k (List.replicate N 59) (N : Int) (N : Int) = some R) : ∀ d i, i + d = N → ∃ k, maquettelaw06_TokenLong.l0 k (List.replicate i 59 ++ List.replicate d 0) (N : Int) (i : Int) = some R
  | 0, i, hi => by
    obtain rfl : i = N := by omega
    rw [List.replicate_zero, List.append_nil]
    exact h
  | d + 1, i, hi => by
    obtain ⟨k, hk⟩ := fill N hN h d (i + 1) (by omega)
    refine ⟨k + 1, ?_⟩
    have hl : (List.replicate i (59 : Int) ++ List.replicate (d + 1) (0 : Int)).length = N := by simp; omega
    rw [maquettelaw06_TokenLong.l0, if_pos (by omega), if_pos (by omega), hl, if_pos (by omega), Int.toNat_natCast, set_rep, w1 (by omega)]
    exact hk
theorem ltoklong (a : Int) (ha : 0 ≤ a ∧ a ≤ 255) : ∃ k, maquettelaw06_TokenLong.f k a = some true := by
  have em : Int.tmod a 12 = a % 12 := Int.tmod_eq_emod_of_nonneg ha.1
  obtain ⟨N, hN, hb⟩ : ∃ N : Nat, wrap64 (65530 + wrap64 (Int.tmod a 12)) = (N : Int) ∧ 65530 ≤ N ∧ N ≤ 65541 := by
    refine ⟨65530 + (a % 12).toNat, ?_, ?_, ?_⟩
    · rw [em]; unfold wrap64; omega
    · omega
    · omega
  have hend : ∃ k, maquettelaw06_TokenLong.l0 k (List.replicate N 59) (N : Int) (N : Int) = some true := by
    have hz := sx_size N
    by_cases hbig : N > 65536
    · refine ⟨1, ?_⟩
      have hc : token_Cut.f 0 (sx N) = some ([], some 7) := by
        unfold token_Cut.f api_Wrap.f
        rw [if_pos (by omega), if_pos (by omega)]
        rfl
      have e1 : api_Number.f (some 7) = some 7 := rfl
      have e2 : api_Place.f (some 7) = some 0 := rfl
      rw [maquettelaw06_TokenLong.l0, if_neg (by omega), show strOfNums (List.replicate N 59) = sx N from rfl, hc, Option.bind_some, List.length_replicate, if_pos (by omega), e1, Option.bind_some, if_pos rfl, e2, Option.bind_some, if_pos rfl]
      rfl
    · have hsz : (sx N).size ≤ 65536 := by omega
      obtain ⟨ts, h1, K, h2⟩ := semis (sx N) hsz (sx_at N) N 0 [] (by omega) (by simp)
      refine ⟨K + 1, ?_⟩
      have hc : token_Cut.f K (sx N) = some (ts, none) := by
        unfold token_Cut.f
        rw [if_neg (by omega)]
        exact h2
      have hw : wrap64 ((N : Int) + 1) = ((N + 1 : Nat) : Int) := w1 (by omega)
      have ht : ts.length = N + 1 := by simpa using h1
      rw [maquettelaw06_TokenLong.l0, if_neg (by omega), show strOfNums (List.replicate N 59) = sx N from rfl, hc, Option.bind_some, List.length_replicate, if_neg (by omega), if_pos (by rfl), hw]
      simp [ht]
  obtain ⟨k, hk⟩ := fill N (by omega) hend N 0 (by omega)
  refine ⟨k + 60, ?_⟩
  unfold maquettelaw06_TokenLong.f
  rw [awake_at (by omega), Option.bind_some, if_pos rfl, hN, if_pos (by omega), if_pos (by omega), Option.bind_some, Int.toNat_natCast, List.length_replicate]
  exact leO_up (F := fun k => maquettelaw06_TokenLong.l0 k (List.replicate N 0) (N : Int) 0) (fun k => maquettelaw06_TokenLong.mono_l k _ _ _) (by omega : k ≤ k + 60) hk
end Go.Proofs.YthodilggomedgaaDoor.TokG
