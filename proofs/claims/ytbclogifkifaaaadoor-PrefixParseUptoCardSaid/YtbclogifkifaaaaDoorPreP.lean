/- Plain law: what prefix.Parse reads of any text is right: that text is its text; of what it does not read it tells nothing. -/
import Derived.Test.YtbclogifkifaaaaDoorPreT
namespace Go.Proofs.YtbclogifkifaaaaDoor.PreP
open Go.RowKit Go.Proofs.YtbclogifkifaaaaDoor.PPre Go.Proofs.YtbclogifkifaaaaDoorW.PrintWords Go.Proofs.YtbclogifkifaaaaDoorW.PrintLast Go.Proofs.YtbclogifkifaaaaDoorW.PrintMore Go.Proofs.YtbclogifkifaaaaDoor.PfxL Go.Proofs.YtbclogifkifaaaaDoor.PreT
set_option linter.unusedVariables false
set_option linter.unusedSimpArgs false
theorem index_spec (c : UInt8) : ∀ l : List UInt8, Lib.index l [c] = -1 ∨ (0 ≤ Lib.index l [c] ∧ l = l.take (Lib.index l [c]).toNat ++ c :: l.drop ((Lib.index l [c]).toNat + 1))
  | [] => .inl (by simp [Lib.index])
  | b :: l => by
    by_cases e : c = b
    · subst e
      have h : Lib.index (c :: l) [c] = 0 := by simp [Lib.index, List.isPrefixOf]
      rw [h]
      exact .inr ⟨by omega, by simp⟩
    · have hb : (c == b) = false := beq_eq_false_iff_ne.2 e
      rcases index_spec c l with h | ⟨h, h2⟩
      · exact .inl (by simp [Lib.index, List.isPrefixOf, hb, h])
      · have h3 : Lib.index (b :: l) [c] = Lib.index l [c] + 1 := by
          rw [Lib.index]
          simp only [List.isPrefixOf, hb, Bool.false_and]
          rw [if_neg (by decide), if_neg (by rw [beq_iff_eq]; omega)]
        rw [h3, show (Lib.index l [c] + 1).toNat = (Lib.index l [c]).toNat + 1 by omega]
        refine .inr ⟨by omega, ?_⟩
        rw [List.take_succ_cons, List.drop_succ_cons, List.cons_append, ← h2]
theorem cut_spec (c : UInt8) (l : List UInt8) : (Lib.cut l [c]).1.length ≤ l.length ∧ (Lib.cut l [c]).2.1.length ≤ l.length ∧ ((Lib.cut l [c]).2.2 = true → l = (Lib.cut l [c]).1 ++ c :: (Lib.cut l [c]).2.1) := by
  unfold Lib.cut
  rcases index_spec c l with h | ⟨h, h2⟩
  · rw [if_neg (by omega)]
    exact ⟨Nat.le_refl _, Nat.zero_le _, fun e => by cases e⟩
  · rw [if_pos h]
    refine ⟨?_, ?_, fun _ => h2⟩
    · rw [List.length_take]; omega
    · rw [List.length_drop]; omega
def joinL (c : UInt8) : List (List UInt8) → List UInt8
  | [] => []
  | [x] => x
  | x :: y :: r => x ++ c :: joinL c (y :: r)
theorem split_ne (c : UInt8) : ∀ k (l : List UInt8), ∃ x r, Lib.splitK [c] 0 k l = x :: r
  | 0, l => ⟨_, _, rfl⟩
  | k + 1, l => by
    rw [Lib.splitK]
    split
    · exact ⟨_, _, rfl⟩
    · exact ⟨_, _, rfl⟩
theorem split_join (c : UInt8) : ∀ k (l : List UInt8), joinL c (Lib.splitK [c] 0 k l) = l
  | 0, l => rfl
  | k + 1, l => by
    rw [Lib.splitK]
    rcases index_spec c l with h | ⟨h, h2⟩
    · rw [h, if_pos (by decide)]
      rfl
    · rw [if_neg (by rw [beq_iff_eq]; omega)]
      obtain ⟨x, r, e⟩ := split_ne c k (l.drop ((Lib.index l [c]).toNat + 1))
      have ih := split_join c k (l.drop ((Lib.index l [c]).toNat + 1))
      rw [e] at ih
      show joinL c (l.take ((Lib.index l [c]).toNat + 0) :: Lib.splitK [c] 0 k (l.drop ((Lib.index l [c]).toNat + 1))) = l
      rw [e, joinL, ih, Nat.add_zero]
      exact h2.symm
/-! numbers -/
theorem num_sound (t : ByteArray) (most : Int) (ht : t.size ≤ 281474976710656) : ∃ v ok, prefix_number.f t most = some (v, ok) ∧ (ok = true → ∃ n : Nat, v = n ∧ (n : Int) ≤ most ∧ t = Bt (D n)) := by
  refine ⟨Go.Proofs.YtbclogifkifaaaaDoor.Libs.numb t, Go.Proofs.YtbclogifkifaaaaDoor.Libs.numOk t most, if_pos ht, fun h => ?_⟩
  unfold Go.Proofs.YtbclogifkifaaaaDoor.Libs.numOk at h
  unfold Go.Proofs.YtbclogifkifaaaaDoor.Libs.numb
  cases e : Lib.atoiAll t.data.toList with
  | ok v =>
    rw [e] at h
    simp only [Bool.and_eq_true, decide_eq_true_eq, beq_iff_eq] at h
    obtain ⟨h0, h1, h2⟩ := h
    refine ⟨v.toNat, (Int.toNat_of_nonneg h0).symm, by omega, ext_data ?_⟩
    unfold Lib.itoa at h2
    rw [if_neg (by omega)] at h2
    exact h2.symm
  | «syntax» => rw [e] at h; cases h
  | range => rw [e] at h; cases h
/-! the parts' loop -/
theorem step (P : List ByteArray) (i : Nat) (hi : i < P.length) (hP : P.length < 100) (a b : Int) (x : ByteArray) (hx : P[i]? = some x) (k : Nat) : prefix_Parse.l0 (k + 1) P (P.length : Int) (i : Int) a b = ((prefix_number.f x 255).bind fun bt => (if bt.2 = true then prefix_Parse.l0 k P (P.length : Int) ((i + 1 : Nat) : Int) (Go.bits .or .u32 ((a * 256) % 4294967296) ((bt.1) % 4294967296)) b else some (0, 0, false))) := by
  have e1 : wrap64 ((i : Int) + 1) = ((i + 1 : Nat) : Int) := by unfold wrap64; omega
  have e2 : rdOf ByteArray.empty P (i : Int) = x := by
    unfold rdOf
    rw [List.getD_eq_getElem?_getD, Int.toNat_natCast, hx]
    rfl
  rw [prefix_Parse.l0, if_pos (by omega), if_pos (by omega), if_pos (by omega), e1, e2]
/-- What is told of a text. -/
structure Told (s : ByteArray) (a b : Int) (ok : Bool) : Prop where
  lo : 0 ≤ a
  hi : a < 4294967296
  yes : ok = true → May a b ∧ ∀ k, 5 ≤ k → maquettelaw05_text.f k a b = some s
  no : ok = false → a = 0 ∧ b = 0
theorem told_no (s : ByteArray) : Told s 0 0 false := ⟨Int.le_refl 0, by decide, (fun h => by cases h), fun _ => ⟨rfl, rfl⟩⟩
theorem uniq (v0 v1 v2 v3 u0 u1 u2 u3 : Nat) (q0 : v0 < 256) (q1 : v1 < 256) (q2 : v2 < 256) (q3 : v3 < 256) (p0 : u0 < 256) (p1 : u1 < 256) (p2 : u2 < 256) (p3 : u3 < 256) (a : Int) (ha : a = (((v0 : Int) * 256 + v1) * 256 + v2) * 256 + v3) (hu : a = (((u0 : Int) * 256 + u1) * 256 + u2) * 256 + u3) : u0 = v0 ∧ u1 = v1 ∧ u2 = v2 ∧ u3 = v3 := by
  omega
theorem text_gen (a : Int) (m : Nat) (d0 d1 d2 d3 dm : List UInt8) (w0 w1 w2 w3 : Int) (k : Nat) (f0 : wrap64 (a / 16777216) = w0) (f1 : wrap64 (Go.bits .and .u32 (a / 65536) 255) = w1) (f2 : wrap64 (Go.bits .and .u32 (a / 256) 255) = w2) (f3 : wrap64 (Go.bits .and .u32 a 255) = w3)
    (g0 : maquettelaw05_digits.f k w0 = some (Bt d0)) (g1 : maquettelaw05_digits.f k w1 = some (Bt d1)) (g2 : maquettelaw05_digits.f k w2 = some (Bt d2)) (g3 : maquettelaw05_digits.f k w3 = some (Bt d3)) (gm : maquettelaw05_digits.f k (m : Int) = some (Bt dm)) (l0 : d0.length ≤ 3) (l1 : d1.length ≤ 3) (l2 : d2.length ≤ 3) (l3 : d3.length ≤ 3) (lm : dm.length ≤ 3) : maquettelaw05_text.f k a (m : Int) = some (tx d0 d1 d2 d3 dm) := by
  subst f0
  subst f1
  subst f2
  subst f3
  exact ltext_core a m d0 d1 d2 d3 dm g0 g1 g2 g3 gm l0 l1 l2 l3 lm
theorem text_is (v0 v1 v2 v3 m : Nat) (q0 : v0 < 256) (q1 : v1 < 256) (q2 : v2 < 256) (q3 : v3 < 256) (hm : m < 256) (a : Int) (h0 : 0 ≤ a) (h1 : a < 4294967296) (ha : a = (((v0 : Int) * 256 + v1) * 256 + v2) * 256 + v3) (k : Nat) (hk : 5 ≤ k) : maquettelaw05_text.f k a (m : Int) = some (tx (D v0) (D v1) (D v2) (D v3) (D m)) := by
  obtain ⟨u0, u1, u2, u3, p0, p1, p2, p3, hu, -, -, -, -, f0, f1, f2, f3⟩ := parts a h0 h1
  obtain ⟨e0, e1, e2, e3⟩ := uniq v0 v1 v2 v3 u0 u1 u2 u3 q0 q1 q2 q3 p0 p1 p2 p3 a ha hu
  have g0 := dig_at q0 hk
  have g1 := dig_at q1 hk
  have g2 := dig_at q2 hk
  have g3 := dig_at q3 hk
  have gm := dig_at hm hk
  have l0 := len_at q0
  have l1 := len_at q1
  have l2 := len_at q2
  have l3 := len_at q3
  have lm := len_at hm
  generalize D v0 = d0 at g0 l0 ⊢
  generalize D v1 = d1 at g1 l1 ⊢
  generalize D v2 = d2 at g2 l2 ⊢
  generalize D v3 = d3 at g3 l3 ⊢
  generalize D m = dm at gm lm ⊢
  rw [e0] at f0
  rw [e1] at f1
  rw [e2] at f2
  rw [e3] at f3
  exact text_gen a m d0 d1 d2 d3 dm _ _ _ _ k f0 f1 f2 f3 g0 g1 g2 g3 gm l0 l1 l2 l3 lm
theorem parse_sound (s : ByteArray) (hs : s.size < 4294967281) : ∃ a b ok, (∀ k, 10 ≤ k → prefix_Parse.f k s = some (a, b, ok)) ∧ Told s a b ok := by
  obtain ⟨c1, c2, c3⟩ := cut_spec 47 s.data.toList
  have hsl : s.data.toList.length = s.size := Array.length_toList
  have eC : strings_Cut.f s (⟨#[47]⟩ : ByteArray) = some (Bt (Lib.cut s.data.toList [47]).1, Bt (Lib.cut s.data.toList [47]).2.1, (Lib.cut s.data.toList [47]).2.2) := if_pos hs
  generalize (Lib.cut s.data.toList [47]).1 = x at *
  generalize (Lib.cut s.data.toList [47]).2.1 = y at *
  generalize (Lib.cut s.data.toList [47]).2.2 = found at *
  obtain ⟨bits, ok, eN, hN⟩ := num_sound (Bt y) 32 (by rw [bt_size]; omega)
  have eS : strings_Split.f (Bt x) (⟨#[46]⟩ : ByteArray) = some (Lib.splitB ⟨#[46]⟩ 0 (Lib.countB (Bt x) ⟨#[46]⟩) (Bt x)) := if_pos ⟨by rw [bt_size]; omega, by decide⟩
  have hjoin : joinL 46 ((Lib.splitB ⟨#[46]⟩ 0 (Lib.countB (Bt x) ⟨#[46]⟩) (Bt x)).map (·.data.toList)) = x := by
    rw [Lib.splitB_data]
    exact (split_join 46 _ _).trans (List.toList_toArray)
  generalize Lib.splitB ⟨#[46]⟩ 0 (Lib.countB (Bt x) ⟨#[46]⟩) (Bt x) = P at eS hjoin
  have hf : ∀ k, prefix_Parse.f k s = (if found = true then (if ok = true then (prefix_Parse.j0 k bits P ((P.length : Int) != 4)) else (prefix_Parse.j0 k bits P true)) else (prefix_Parse.j0 k bits P true)) := fun k => by
    unfold prefix_Parse.f
    rw [eC, Option.bind_some, eN, Option.bind_some, eS, Option.bind_some]
  have hno : ∀ k, 10 ≤ k → prefix_Parse.j0 k bits P true = some (0, 0, false) := fun k hk => by
    obtain ⟨k, rfl⟩ : ∃ q, k = q + 1 := ⟨k - 1, by omega⟩
    rw [prefix_Parse.j0, if_pos rfl]
  cases found with
  | false => exact ⟨0, 0, false, fun k hk => by rw [hf, if_neg (by decide)]; exact hno k hk, told_no s⟩
  | true =>
  cases ok with
  | false => exact ⟨0, 0, false, fun k hk => by rw [hf, if_pos rfl, if_neg (by decide)]; exact hno k hk, told_no s⟩
  | true =>
  obtain ⟨m, rfl, hm, hy⟩ := hN rfl
  by_cases h4 : P.length = 4
  · have hj : ∀ k, prefix_Parse.f (k + 6) s = prefix_Parse.l0 (k + 5) P (P.length : Int) ((0 : Nat) : Int) 0 (m : Int) := fun k => by
      rw [hf, if_pos rfl, if_pos rfl, h4, prefix_Parse.j0, if_neg (by decide), h4]
      rfl
    obtain ⟨x0, x1, x2, x3, rfl⟩ : ∃ x0 x1 x2 x3, P = [x0, x1, x2, x3] := by
      match P, h4 with
      | [x0, x1, x2, x3], _ => exact ⟨x0, x1, x2, x3, rfl⟩
    have hx : x = x0.data.toList ++ 46 :: (x1.data.toList ++ 46 :: (x2.data.toList ++ 46 :: x3.data.toList)) := hjoin.symm
    have hlen := congrArg List.length hx
    simp only [List.length_append, List.length_cons] at hlen
    have z : ∀ t : ByteArray, t.data.toList.length = t.size := fun t => Array.length_toList
    rw [z, z, z, z] at hlen
    obtain ⟨v0, o0, e0, s0⟩ := num_sound x0 255 (by omega)
    obtain ⟨v1, o1, e1, s1⟩ := num_sound x1 255 (by omega)
    obtain ⟨v2, o2, e2, s2⟩ := num_sound x2 255 (by omega)
    obtain ⟨v3, o3, e3, s3⟩ := num_sound x3 255 (by omega)
    have g0 := fun a b k => step [x0, x1, x2, x3] 0 (by simp) (by simp) a b x0 rfl k
    have g1 := fun a b k => step [x0, x1, x2, x3] 1 (by simp) (by simp) a b x1 rfl k
    have g2 := fun a b k => step [x0, x1, x2, x3] 2 (by simp) (by simp) a b x2 rfl k
    have g3 := fun a b k => step [x0, x1, x2, x3] 3 (by simp) (by simp) a b x3 rfl k
    have kk : ∀ {r}, (∀ k, prefix_Parse.f (k + 6) s = some r) → ∀ k, 10 ≤ k → prefix_Parse.f k s = some r := fun h k hk => by
      obtain ⟨q, rfl⟩ : ∃ q, k = q + 6 := ⟨k - 6, by omega⟩
      exact h q
    cases o0 with
    | false => exact ⟨0, 0, false, kk fun k => by rw [hj, g0, e0, Option.bind_some, if_neg (by simp)], told_no s⟩
    | true =>
    cases o1 with
    | false => exact ⟨0, 0, false, kk fun k => by rw [hj, g0, e0, Option.bind_some, if_pos rfl, g1, e1, Option.bind_some, if_neg (by simp)], told_no s⟩
    | true =>
    cases o2 with
    | false => exact ⟨0, 0, false, kk fun k => by rw [hj, g0, e0, Option.bind_some, if_pos rfl, g1, e1, Option.bind_some, if_pos rfl, g2, e2, Option.bind_some, if_neg (by simp)], told_no s⟩
    | true =>
    cases o3 with
    | false => exact ⟨0, 0, false, kk fun k => by rw [hj, g0, e0, Option.bind_some, if_pos rfl, g1, e1, Option.bind_some, if_pos rfl, g2, e2, Option.bind_some, if_pos rfl, g3, e3, Option.bind_some, if_neg (by simp)], told_no s⟩
    | true =>
    obtain ⟨n0, rfl, w0, t0⟩ := s0 rfl
    obtain ⟨n1, rfl, w1, t1⟩ := s1 rfl
    obtain ⟨n2, rfl, w2, t2⟩ := s2 rfl
    obtain ⟨n3, rfl, w3, t3⟩ := s3 rfl
    have hss : s = tx (D n0) (D n1) (D n2) (D n3) (D m) := by
      have hsx := c3 rfl
      refine ext_data (hsx.trans ?_)
      have b0 : x0.data.toList = D n0 := by rw [t0]
      have b1 : x1.data.toList = D n1 := by rw [t1]
      have b2 : x2.data.toList = D n2 := by rw [t2]
      have b3 : x3.data.toList = D n3 := by rw [t3]
      have by_ : y = D m := by
        have := congrArg (fun q : ByteArray => q.data.toList) hy
        simpa using this
      rw [hx, b0, b1, b2, b3, by_]
      unfold tx
      exact (List.toList_toArray).symm
    obtain ⟨a, ha⟩ : ∃ a : Int, a = (((n0 : Int) * 256 + n1) * 256 + n2) * 256 + n3 := ⟨_, rfl⟩
    have b0_ : 0 ≤ a := by omega
    have b1_ : a < 4294967296 := by omega
    have hend : ∀ k, prefix_Parse.f (k + 6) s = ((prefix_May.f a (m : Int)).bind fun t124 => (if t124 = true then (some (a, (m : Int), true)) else (some (0, 0, false)))) := fun k => by
      rw [hj, g0, e0, Option.bind_some, if_pos rfl, g1, e1, Option.bind_some, if_pos rfl, g2, e2, Option.bind_some, if_pos rfl, g3, e3, Option.bind_some, if_pos rfl]
      rw [or_u32 (x := 0 * 256 % 4294967296) (by omega) (by omega) (by omega) (by omega) (by omega), or_u32 (by omega) (by omega) (by omega) (by omega) (by omega), or_u32 (by omega) (by omega) (by omega) (by omega) (by omega), or_u32 (by omega) (by omega) (by omega) (by omega) (by omega)]
      rw [prefix_Parse.l0, if_neg (by simp)]
      have : ∀ q : Int, q = a → ((prefix_May.f q (m : Int)).bind fun t124 => (if t124 = true then (some (q, (m : Int), true)) else (some (0, 0, false)))) = ((prefix_May.f a (m : Int)).bind fun t124 => (if t124 = true then (some (a, (m : Int), true)) else (some (0, 0, false)))) := by
        rintro q rfl
        rfl
      exact this _ (by omega)
    by_cases hM : May a (m : Int)
    · refine ⟨a, (m : Int), true, kk fun k => by rw [hend, may_f, decide_eq_true hM, Option.bind_some, if_pos rfl], b0_, b1_, fun _ => ⟨hM, fun k hk => ?_⟩, (fun h => by cases h)⟩
      rw [hss]
      exact text_is n0 n1 n2 n3 m (by omega) (by omega) (by omega) (by omega) (by omega) a b0_ b1_ ha k hk
    · exact ⟨0, 0, false, kk fun k => by rw [hend, may_f, decide_eq_false hM, Option.bind_some, if_neg (by decide)], told_no s⟩
  · exact ⟨0, 0, false, fun k hk => by rw [hf, if_pos rfl, if_pos rfl, show ((P.length : Int) != 4) = true from bne_iff_ne.2 (by omega)]; exact hno k hk, told_no s⟩
end Go.Proofs.YtbclogifkifaaaaDoor.PreP
