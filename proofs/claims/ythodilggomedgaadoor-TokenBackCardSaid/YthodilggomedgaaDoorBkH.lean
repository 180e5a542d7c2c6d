/- Plain law: TokenBack answers true. -/
import Derived.Test.YthodilggomedgaaDoorBkB
import Derived.Test.YthodilggomedgaaDoorPTbx18
namespace Go.Proofs.YthodilggomedgaaDoor.BkH
open Go.RowKit Go.Proofs.YthodilggomedgaaDoor.PTb Go.Proofs.YthodilggomedgaaDoorW.PrintWords Go.Proofs.YthodilggomedgaaDoorW.PrintLast Go.Proofs.YthodilggomedgaaDoorW.PrintMore Go.Proofs.YthodilggomedgaaDoor.Dec Go.Proofs.YthodilggomedgaaDoor.BkM Go.Proofs.YthodilggomedgaaDoor.BkP Go.Proofs.YthodilggomedgaaDoor.BkC Go.Proofs.YthodilggomedgaaDoor.BkB
set_option linter.unusedVariables false
set_option linter.unusedSimpArgs false
set_option linter.all false
theorem yf {x : ByteArray} (hx : x.size ≤ 65536) {R} (h : Y x [] 0 R) : ∃ K, ∀ k, K ≤ k → token_Cut.f k x = some R := by
  obtain ⟨K, h⟩ := h
  refine ⟨K, fun k hk => ?_⟩
  unfold token_Cut.f
  rw [if_neg (by omega)]
  exact leO_up (F := fun k => token_Cut.l0 k x [] 0) (fun k => (token_Cut.mono_l k).1 _ _ _) hk h
def jf : List S33 → List UInt8
  | [] => []
  | t :: ts => t.f1.data.toList ++ 32 :: jf ts
theorem jf_eof (s : ByteArray) : ∀ ts, jf (ts ++ [eof s]) = jl ts
  | [] => rfl
  | t :: ts => by
    show t.f1.data.toList ++ 32 :: jf (ts ++ [eof s]) = t.f1.data.toList ++ 32 :: jl ts
    rw [jf_eof s ts]
theorem jl_len : ∀ ts, (jl ts).length = total ts + ts.length + 1
  | [] => rfl
  | t :: ts => by
    show (t.f1.data.toList ++ 32 :: jl ts).length = t.f1.size + total ts + (ts.length + 1) + 1
    rw [List.length_append, List.length_cons, jl_len ts, lsz]
    omega
theorem sm_eof (s t : ByteArray) : ∀ us ts, Sm us ts → Sm (us ++ [eof s]) (ts ++ [eof t])
  | [], [], _ => ⟨⟨rfl, rfl, rfl, rfl⟩, trivial⟩
  | u :: us, t' :: ts, h => ⟨h.1, sm_eof s t us ts h.2⟩
  | [], _ :: _, h => h.elim
  | _ :: _, [], h => h.elim
theorem sm_len : ∀ us ts, Sm us ts → us.length = ts.length
  | [], [], _ => rfl
  | u :: us, t' :: ts, h => by rw [List.length_cons, List.length_cons, sm_len us ts h.2]
  | [], _ :: _, h => h.elim
  | _ :: _, [], h => h.elim
theorem sm_at : ∀ us ts (i : Nat) u t, Sm us ts → us[i]? = some u → ts[i]? = some t → u.f0 = t.f0 ∧ u.f1 = t.f1 ∧ u.f2 = t.f2 ∧ u.f3 = t.f3
  | u :: us, t :: ts, 0, u', t', h, h1, h2 => by cases h1; cases h2; exact h.1
  | u :: us, t :: ts, i + 1, u', t', h, h1, h2 => sm_at us ts i u' t' h.2 (by simpa using h1) (by simpa using h2)
  | [], _, i, _, _, _, h1, _ => by simp at h1
  | _ :: _, [], i, _, _, _, _, h2 => by simp at h2
theorem rd_at {X : List S33} {i : Nat} {t : S33} (h : X[i]? = some t) : rd_T33 X (i : Int) = t := by
  unfold rd_T33
  rw [List.getD_eq_getElem?_getD, Int.toNat_natCast, h]
  rfl
theorem cmp_l (X U : List S33) (hX : X.length < 9223372036854775807) (hS : Sm U X) : ∀ d i k, i + d = X.length → d < k → maquettelaw06_TokenBack.l1 k X U (X.length : Int) (i : Int) = some true
  | 0, i, k, hi, hk => by
    obtain ⟨k, rfl⟩ : ∃ q, k = q + 1 := ⟨k - 1, by omega⟩
    rw [maquettelaw06_TokenBack.l1, if_neg (by omega)]
  | d + 1, i, k, hi, hk => by
    obtain ⟨k, rfl⟩ : ∃ q, k = q + 1 := ⟨k - 1, by omega⟩
    have hl := sm_len _ _ hS
    have g1 : (i : Int) < (X.length : Int) := by omega
    have g2 : 0 ≤ (i : Int) := by omega
    have g3 : (i : Int) < (U.length : Int) := by omega
    obtain ⟨t, ht⟩ : ∃ t, X[i]? = some t := ⟨_, List.getElem?_eq_getElem (by omega)⟩
    obtain ⟨u, hu⟩ : ∃ u, U[i]? = some u := ⟨_, List.getElem?_eq_getElem (by omega)⟩
    obtain ⟨e0, e1, e2, e3⟩ := sm_at _ _ i u t hS hu ht
    have ih := cmp_l X U hX hS d (i + 1) k (by omega) (by omega)
    rw [maquettelaw06_TokenBack.l1, if_pos g1, if_pos g2, if_pos g1, if_pos g3, rd_at ht, rd_at hu, e0, e1, e2, e3, if_pos rfl, if_pos rfl, if_pos rfl, if_neg (by simp), w1 (by omega)]
    exact ih
theorem lay_l (X : List S33) (hX : (jf X).length ≤ 1000000) (hl : X.length ≤ 1000000) {R : Bool} (h : ∃ k, maquettelaw06_TokenBack.l0 k X ⟨(jf X).toArray⟩ X (X.length : Int) (X.length : Int) = some R) : ∀ d i (x5 : ByteArray), i + d = X.length → x5.data.toList ++ jf (X.drop i) = jf X → ∃ k, maquettelaw06_TokenBack.l0 k X x5 X (X.length : Int) (i : Int) = some R
  | 0, i, x5, hi, he => by
    obtain rfl : i = X.length := by omega
    rw [List.drop_length] at he
    have e : x5 = ⟨(jf X).toArray⟩ := by
      apply toL_inj
      rw [← he]
      simp [jf]
    rw [e]
    exact h
  | d + 1, i, x5, hi, he => by
    have hi' : i < X.length := by omega
    obtain ⟨t, ht, hd⟩ := drop_at (l := X) (i := i) hi'
    rw [hd] at he
    have hjf : jf (t :: X.drop (i + 1)) = t.f1.data.toList ++ 32 :: jf (X.drop (i + 1)) := rfl
    rw [hjf] at he
    have hlen := congrArg List.length he
    rw [List.length_append, List.length_append, List.length_cons, lsz, lsz] at hlen
    have hn : ((x5 ++ t.f1) ++ (⟨#[32]⟩ : ByteArray)).data.toList ++ jf (X.drop (i + 1)) = jf X := by
      rw [← he, ByteArray.data_append, ByteArray.data_append, Array.toList_append, Array.toList_append]
      simp
    obtain ⟨k, hk⟩ := lay_l X hX hl h d (i + 1) _ (by omega) hn
    refine ⟨k + 1, ?_⟩
    have g1 : (i : Int) < (X.length : Int) := by omega
    have g2 : 0 ≤ (i : Int) := by omega
    have g3 : x5.size + t.f1.size ≤ 9223372036854775807 := by omega
    have g4 : (x5 ++ t.f1).size + 1 ≤ 9223372036854775807 := by rw [ByteArray.size_append]; omega
    rw [maquettelaw06_TokenBack.l0, if_pos g1, if_pos g2, if_pos g1, rd_at ht, if_pos g3, if_pos g4, w1 (by omega)]
    exact hk
theorem ltokback (s : ByteArray) : ∃ k, maquettelaw06_TokenBack.f k s = some true := by
  by_cases h2 : (s.size : Int) > 2000
  · refine ⟨60, ?_⟩
    unfold maquettelaw06_TokenBack.f
    rw [awake_at (by omega), Option.bind_some, if_pos rfl, if_pos h2]
  · have hs : s.size ≤ 65536 := by omega
    rcases cut_good s hs s.size 0 [] (by omega) (by simp) with ⟨ts, h3, h4, h5, h6⟩ | ⟨q, h3⟩
    · obtain ⟨K1, hK1⟩ := yf hs h6
      have hjl := jl_len ts
      have hX : (jf (ts ++ [eof s])).length ≤ 1000000 := by rw [jf_eof, hjl]; omega
      have hXl : (ts ++ [eof s]).length = ts.length + 1 := by simp
      have hT : (⟨(jf (ts ++ [eof s])).toArray⟩ : ByteArray).data.toList = jl ts := by rw [jf_eof]
      have hTs : (⟨(jf (ts ++ [eof s])).toArray⟩ : ByteArray).size ≤ 65536 := by rw [← lsz, hT, hjl]; omega
      have hend : ∃ k, maquettelaw06_TokenBack.l0 k (ts ++ [eof s]) ⟨(jf (ts ++ [eof s])).toArray⟩ (ts ++ [eof s]) ((ts ++ [eof s]).length : Int) ((ts ++ [eof s]).length : Int) = some true := by
        generalize (⟨(jf (ts ++ [eof s])).toArray⟩ : ByteArray) = T at hT hTs
        obtain ⟨us, u1, u2⟩ := back T hTs ts 0 [] h5 (by rw [List.drop_zero]; exact hT) (by simp)
        obtain ⟨K2, hK2⟩ := yf hTs u2
        have hS := sm_eof T s us ts u1
        have hl := sm_len _ _ hS
        refine ⟨K2 + ts.length + 10, ?_⟩
        have g0 : ¬ ((ts ++ [eof s]).length : Int) < ((ts ++ [eof s]).length : Int) := by omega
        rw [show K2 + ts.length + 10 = (K2 + ts.length + 8 + 1) + 1 by omega, maquettelaw06_TokenBack.l0, if_neg g0, hK2 _ (by omega), Option.bind_some]
        simp only [List.nil_append]
        rw [if_pos (by rfl), hl, show (((ts ++ [eof s]).length : Int) != ((ts ++ [eof s]).length : Int)) = false by simp, maquettelaw06_TokenBack.j1, if_neg (by decide)]
        exact cmp_l _ _ (by omega) hS (ts ++ [eof s]).length 0 _ (by omega) (by omega)
      obtain ⟨k, hk⟩ := lay_l (ts ++ [eof s]) hX (by omega) hend (ts ++ [eof s]).length 0 (⟨#[]⟩ : ByteArray) (by omega) (by rw [List.drop_zero]; rfl)
      refine ⟨60 + K1 + k, ?_⟩
      unfold maquettelaw06_TokenBack.f
      rw [awake_at (by omega), Option.bind_some, if_pos rfl, if_neg h2, hK1 _ (by omega), Option.bind_some]
      simp only [List.nil_append]
      rw [if_pos (by rfl)]
      exact leO_up (F := fun k => maquettelaw06_TokenBack.l0 k (ts ++ [eof s]) (⟨#[]⟩ : ByteArray) (ts ++ [eof s]) ((ts ++ [eof s]).length : Int) 0) (fun k => (maquettelaw06_TokenBack.mono_l k).1 _ _ _ _ _) (by omega : k ≤ 60 + K1 + k) hk
    · obtain ⟨K1, hK1⟩ := yf hs h3
      refine ⟨60 + K1, ?_⟩
      unfold maquettelaw06_TokenBack.f
      rw [awake_at (by omega), Option.bind_some, if_pos rfl, if_neg h2, hK1 _ (by omega), Option.bind_some]
      rfl
end Go.Proofs.YthodilggomedgaaDoor.BkH
