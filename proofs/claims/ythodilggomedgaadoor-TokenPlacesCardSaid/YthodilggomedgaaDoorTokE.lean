/- Plain law: TokenPlaces answers true. -/
import Derived.Test.YthodilggomedgaaDoorTokC
import Derived.Test.YthodilggomedgaaDoorPTkx19
namespace Go.Proofs.YthodilggomedgaaDoor.TokE
open Go.RowKit Go.Proofs.YthodilggomedgaaDoor.PTk Go.Proofs.YthodilggomedgaaDoorW.PrintWords Go.Proofs.YthodilggomedgaaDoorW.PrintLast Go.Proofs.YthodilggomedgaaDoorW.PrintMore Go.Proofs.YthodilggomedgaaDoor.Dec Go.Proofs.YthodilggomedgaaDoor.TokM Go.Proofs.YthodilggomedgaaDoor.TokP Go.Proofs.YthodilggomedgaaDoor.TokC
set_option linter.unusedVariables false
set_option linter.unusedSimpArgs false
set_option linter.all false
def Last (x : ByteArray) (X : List S33) : Prop := (rd_T33 X ((X.length : Int) - 1)).f4 = (x.size : Int)
theorem places_end (x : ByteArray) (X : List S33) (hX : X.length < 9223372036854775807) (h0 : 0 < X.length) (hl : Last x X) (p : Int) (k : Nat) : maquettelaw06_TokenPlaces.l0 (k + 1) x X p X (X.length : Int) (X.length : Int) = some true := by
  have e : wrap64 ((X.length : Int) - 1) = (X.length : Int) - 1 := by unfold wrap64; omega
  have g1 : ¬ (X.length : Int) < (X.length : Int) := by omega
  have g2 : (X.length : Int) > 0 := by omega
  have g3 : 0 ≤ (X.length : Int) - 1 := by omega
  have g4 : (X.length : Int) - 1 < (X.length : Int) := by omega
  rw [maquettelaw06_TokenPlaces.l0, if_neg g1, if_pos g2, e, if_pos g3, if_pos g4]
  unfold Last at hl
  rw [hl]
  simp
theorem places_step (x : ByteArray) (hx : x.size ≤ 65536) (X : List S33) (t : S33) (i p a b : Nat) (hi : i < X.length) (hX : X.length < 9223372036854775807) (hr : rd_T33 X (i : Int) = t) (h1 : p ≤ a) (h2 : a ≤ b) (h3 : b ≤ x.size) (h4 : t.f4 = (a : Int)) (h5 : t.f1 = x.extract a b) (k : Nat) (R : Option Bool) (h : maquettelaw06_TokenPlaces.l0 k x X (b : Int) X (X.length : Int) ((i + 1 : Nat) : Int) = R) : maquettelaw06_TokenPlaces.l0 (k + 1) x X (p : Int) X (X.length : Int) (i : Int) = R := by
  have g1 : (i : Int) < (X.length : Int) := by omega
  have g2 : 0 ≤ (i : Int) := by omega
  have hz : (x.extract a b).size = b - a := ext_size h3
  have ew : wrap64 ((a : Int) + ((b - a : Nat) : Int)) = (b : Int) := by unfold wrap64; omega
  have g3 : ¬ (a : Int) < (p : Int) := by omega
  have g4 : ¬ (b : Int) > (x.size : Int) := by omega
  have g5 : 0 ≤ (a : Int) := by omega
  have g6 : (a : Int) ≤ (b : Int) := by omega
  have g7 : (b : Int) ≤ (x.size : Int) := by omega
  rw [maquettelaw06_TokenPlaces.l0, if_pos g1, if_pos g2, if_pos g1, hr, h4, h5, hz, ew, if_neg g3, if_neg g4, if_pos g5, if_pos g6, if_pos g7, Int.toNat_natCast, Int.toNat_natCast, if_pos rfl, w1 (by omega)]
  exact h
theorem places_l (x : ByteArray) (hx : x.size ≤ 65536) (X : List S33) (hX : X.length < 9223372036854775807) (h0 : 0 < X.length) (hlast : Last x X) : ∀ d i p k, i + d = X.length → d < k → Placed x p (X.drop i) → maquettelaw06_TokenPlaces.l0 k x X (p : Int) X (X.length : Int) (i : Int) = some true
  | 0, i, p, k, hi, hk, hP => by
    obtain ⟨k, rfl⟩ : ∃ q, k = q + 1 := ⟨k - 1, by omega⟩
    obtain rfl : i = X.length := by omega
    exact places_end x X hX h0 hlast _ _
  | d + 1, i, p, k, hi, hk, hP => by
    obtain ⟨k, rfl⟩ : ∃ q, k = q + 1 := ⟨k - 1, by omega⟩
    have hi' : i < X.length := by omega
    have hk' : d < k := by omega
    have hs' : i + 1 + d = X.length := by omega
    obtain ⟨t, ht, hd⟩ := drop_at (l := X) (i := i) hi'
    rw [hd] at hP
    obtain ⟨a, b, h1, h2, h3, h4, h5, h6⟩ := hP
    have hr : rd_T33 X (i : Int) = t := by
      unfold rd_T33
      rw [List.getD_eq_getElem?_getD, Int.toNat_natCast, ht]
      rfl
    exact places_step x hx X t i p a b hi' hX hr h1 h2 h3 h4 h5 k _ (places_l x hx X hX h0 hlast d (i + 1) b k hs' hk' h6)
theorem ltokplaces (s : ByteArray) : ∃ k, maquettelaw06_TokenPlaces.f k s = some true := by
  by_cases hb : (s.size : Int) > 65536
  · refine ⟨60, ?_⟩
    have hc : token_Cut.f 60 s = some ([], some 7) := by
      unfold token_Cut.f api_Wrap.f
      rw [if_pos hb, if_pos (by omega)]
      rfl
    unfold maquettelaw06_TokenPlaces.f
    rw [awake_at (by omega), Option.bind_some, if_pos rfl, hc, Option.bind_some]
    have ep : api_Place.f (some (((some 7 : Option Int)).getD 0)) = some 0 := rfl
    simp only
    rw [if_neg (by decide), if_pos (by rfl), ep, Option.bind_some, Option.bind_some, if_pos (by omega)]
    simp
  · rcases cut_all s (by omega) with ⟨ts, hl, h1, ⟨K1, h2⟩, -⟩ | ⟨q, h1, ⟨K1, h2⟩, -⟩
    · refine ⟨60 + K1 + s.size + 10, ?_⟩
      have hz : (ts ++ [eof s]).length = ts.length + 1 := by simp
      unfold maquettelaw06_TokenPlaces.f
      rw [awake_at (by omega), Option.bind_some, if_pos rfl, h2 _ (by omega), Option.bind_some]
      simp only
      rw [if_pos (by rfl)]
      have hsz : s.size ≤ 65536 := by omega
      have hz9 : (ts ++ [eof s]).length < 9223372036854775807 := by omega
      have hz0 : 0 < (ts ++ [eof s]).length := by omega
      have hzk : (ts ++ [eof s]).length < 60 + K1 + s.size + 10 := by omega
      refine places_l s hsz _ hz9 hz0 ?_ (ts ++ [eof s]).length 0 0 _ (Nat.zero_add _) hzk h1
      unfold Last
      rw [hz]
      unfold rd_T33
      rw [show (((ts.length + 1 : Nat) : Int) - 1).toNat = ts.length by omega, List.getD_eq_getElem?_getD, List.getElem?_append_right (by omega)]
      simp [eof]
    · refine ⟨60 + K1, ?_⟩
      have ep : api_Place.f (some (((some ((q : Int) * 16 + 1) : Option Int)).getD 0)) = some (q : Int) := by
        unfold api_Place.f
        simp only [Option.getD_some]
        congr 1
        omega
      unfold maquettelaw06_TokenPlaces.f
      rw [awake_at (by omega), Option.bind_some, if_pos rfl, h2 _ (by omega), Option.bind_some]
      simp only
      rw [if_neg (by simp), if_pos (by rfl), ep, Option.bind_some, Option.bind_some, if_pos (by omega)]
      simp
      omega
end Go.Proofs.YthodilggomedgaaDoor.TokE
