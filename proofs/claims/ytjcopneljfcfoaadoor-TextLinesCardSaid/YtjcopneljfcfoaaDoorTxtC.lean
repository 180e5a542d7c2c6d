/- Plain law: a clause's line is what the law says; a rule's clause. -/
import Derived.Test.YtjcopneljfcfoaaDoorTxtP
import Derived.Test.YtjcopneljfcfoaaDoorPRawx12
import Derived.Test.YtjcopneljfcfoaaDoorPRawx20
namespace Go.Proofs.YtjcopneljfcfoaaDoor.TxtP
open Go.RowKit Go.Proofs.YtjcopneljfcfoaaDoor.PRaw Go.Proofs.YtjcopneljfcfoaaDoorW.PrintWords Go.Proofs.YtjcopneljfcfoaaDoorW.PrintLast Go.Proofs.YtjcopneljfcfoaaDoorW.PrintMore
set_option linter.unusedVariables false
set_option linter.unusedSimpArgs false
/-! ### a prefix's text -/
theorem itoa_len {n : Int} (h0 : -9223372036854775808 ≤ n) (h1 : n < 9223372036854775808) : (Lib.itoa n).length ≤ 20 := by
  unfold Lib.itoa
  split
  · have := dec_len 18 n.natAbs (by show n.natAbs < 10000000000000000000; omega)
    simp
    omega
  · have := dec_len 18 n.toNat (by show n.toNat < 10000000000000000000; omega)
    omega
theorem itoa_w (n : Int) : ∃ t, strconv_Itoa.f (wrap64 n) = some t ∧ t.size ≤ 20 := by
  have h : -9223372036854775808 ≤ wrap64 n ∧ wrap64 n < 9223372036854775808 := by unfold wrap64; omega
  unfold strconv_Itoa.f
  rw [if_pos (by omega)]
  exact ⟨_, rfl, by rw [itoa_sizes]; exact itoa_len h.1 h.2⟩
theorem itoa_i {n : Int} (h0 : -9223372036854775808 ≤ n) (h1 : n < 9223372036854775808) : ∃ t, strconv_Itoa.f n = some t ∧ t.size ≤ 20 := by
  unfold strconv_Itoa.f
  rw [if_pos (by omega)]
  exact ⟨_, rfl, by rw [itoa_sizes]; exact itoa_len h0 h1⟩
theorem join_small (a b c d : ByteArray) (ha : a.size ≤ 20) (hb : b.size ≤ 20) (hc : c.size ≤ 20) (hd : d.size ≤ 20) : ∃ t, strings_Join.f [a, b, c, d] ⟨#[46]⟩ = some t ∧ t.size ≤ 100 := by
  have e : ∀ x : ByteArray, x.data.toList.length = x.size := fun x => Array.length_toList
  have hl : (Lib.join ([a, b, c, d].map (·.data.toList)) (⟨#[46]⟩ : ByteArray).data.toList).length ≤ 100 := by
    simp [Lib.join]
    omega
  unfold strings_Join.f
  rw [if_pos ⟨by simp, by omega⟩]
  refine ⟨_, rfl, ?_⟩
  show Array.size _ ≤ 100
  rw [List.size_toArray]
  exact hl
theorem text_ok (a b : Int) (hb0 : -9223372036854775808 ≤ b) (hb1 : b < 9223372036854775808) {k : Nat} (hk : 10 ≤ k) : prefix_May.f a b = none ∨ ∃ t, prefix_Text.f k a b = some t ∧ t.size ≤ 200 := by
  cases hm : prefix_May.f a b with
  | none => exact Or.inl rfl
  | some m =>
    right
    obtain ⟨k, rfl⟩ : ∃ q, k = q + 5 := ⟨k - 5, by omega⟩
    unfold prefix_Text.f
    rw [hm, Option.bind_some]
    cases m with
    | false => rw [if_neg (by simp)]; exact ⟨_, rfl, by show 0 ≤ _; omega⟩
    | true =>
      rw [if_pos rfl]
      obtain ⟨t0, e0, s0⟩ := itoa_w (Go.bits .and .u32 (shr .u32 a 24) 255)
      obtain ⟨t1, e1, s1⟩ := itoa_w (Go.bits .and .u32 (shr .u32 a 16) 255)
      obtain ⟨t2, e2, s2⟩ := itoa_w (Go.bits .and .u32 (shr .u32 a 8) 255)
      obtain ⟨t3, e3, s3⟩ := itoa_w (Go.bits .and .u32 (shr .u32 a 0) 255)
      obtain ⟨tj, ej, sj⟩ := join_small t0 t1 t2 t3 s0 s1 s2 s3
      obtain ⟨tb, eb, sb⟩ := itoa_i hb0 hb1
      have o47 : (⟨#[47]⟩ : ByteArray).size = 1 := rfl
      rw [prefix_Text.l0, if_pos (by decide), if_pos (by decide), e0, Option.bind_some, if_pos (by simp), show wrap64 (24 - 8) = 16 by unfold wrap64; omega,
        prefix_Text.l0, if_pos (by decide), if_pos (by decide), e1, Option.bind_some, if_pos (by simp), show wrap64 (16 - 8) = 8 by unfold wrap64; omega,
        prefix_Text.l0, if_pos (by decide), if_pos (by decide), e2, Option.bind_some, if_pos (by simp), show wrap64 (8 - 8) = 0 by unfold wrap64; omega,
        prefix_Text.l0, if_pos (by decide), if_pos (by decide), e3, Option.bind_some, if_pos (by simp), show wrap64 (0 - 8) = -8 by unfold wrap64; omega,
        prefix_Text.l0, if_neg (by decide)]
      rw [show [] ++ [t0] ++ [t1] ++ [t2] ++ [t3] = [t0, t1, t2, t3] from rfl, ej, Option.bind_some, if_pos (by omega), eb, Option.bind_some, if_pos (by rw [size_app, o47]; omega)]
      exact ⟨_, rfl, by rw [size_app, size_app, o47]; omega⟩
theorem may_some (a b : Int) : prefix_May.f a b ≠ none := by
  unfold prefix_May.f
  split
  · split
    · have : prefix_mask.f b ≠ none := by
        unfold prefix_mask.f
        split
        · simp
        · rw [if_pos (by unfold wrap64 mn; split <;> omega)]
          simp
      cases h : prefix_mask.f b with
      | none => exact absurd h this
      | some m => simp
    · simp
  · simp
/-! ### a clause's line -/
theorem clause_eq (any : Bool) (pa pb wi ou : Int) (dr : Bool) (se cl mo pr : Int) (hb0 : -9223372036854775808 ≤ pb) (hb1 : pb < 9223372036854775808) (hw0 : 0 ≤ wi) (hw1 : wi ≤ 255) (ho0 : 0 ≤ ou) (ho1 : ou ≤ 255) (hs0 : 0 ≤ se) (hs1 : se ≤ 255) (hc0 : 0 ≤ cl) (hc1 : cl ≤ 255)
    (hm0 : -999999 ≤ mo) (hm1 : mo < 9223372036854775808) (hp0 : -999999 ≤ pr) (hp1 : pr < 9223372036854775808) {k : Nat} (hk : 40 ≤ k) :
    ∃ t, text_Clause.f k any pa pb wi ou dr se cl mo pr = some t ∧ maquettelaw07_line.f k any pa pb wi ou dr se cl mo pr = some t ∧ t.size ≤ 600 := by
  obtain ⟨k, rfl⟩ : ∃ q, k = q + 2 := ⟨k - 2, by omega⟩
  obtain ⟨w, w1, w2, w3⟩ := tags_eq (⟨#[119, 105, 116, 104]⟩ : ByteArray) (by decide) hw0 hw1 (k := k + 1) (by omega)
  obtain ⟨o, o1, o2, o3⟩ := tags_eq (⟨#[111, 117, 116]⟩ : ByteArray) (by decide) ho0 ho1 (k := k + 1) (by omega)
  obtain ⟨s, s1, s2, s3⟩ := tags_eq (⟨#[115, 101, 116]⟩ : ByteArray) (by decide) hs0 hs1 (k := k) (by omega)
  obtain ⟨c, c1, c2, c3⟩ := tags_eq (⟨#[99, 108, 101, 97, 114]⟩ : ByteArray) (by decide) hc0 hc1 (k := k) (by omega)
  obtain ⟨m, m1, m2, m3⟩ := number_eq (⟨#[109, 111, 114, 101]⟩ : ByteArray) (by decide) hm0 hm1 (k := k) (by omega)
  obtain ⟨p, p1, p2, p3⟩ := number_eq (⟨#[112, 114, 101, 102]⟩ : ByteArray) (by decide) hp0 hp1 (k := k) (by omega)
  obtain ⟨w', w1', w2', _⟩ := tags_eq (⟨#[119, 105, 116, 104]⟩ : ByteArray) (by decide) hw0 hw1 (k := k) (by omega)
  obtain ⟨o', o1', o2', _⟩ := tags_eq (⟨#[111, 117, 116]⟩ : ByteArray) (by decide) ho0 ho1 (k := k) (by omega)
  have ew : w' = w := Option.some.inj (((text_tags.mono _ _ _ _ w1').symm.trans w1))
  have eo : o' = o := Option.some.inj (((text_tags.mono _ _ _ _ o1').symm.trans o1))
  rw [ew] at w2'
  rw [eo] at o2'
  clear w1' o1' ew eo
  have zw : (⟨#[119, 105, 116, 104]⟩ : ByteArray).size = 4 := rfl
  have zo : (⟨#[111, 117, 116]⟩ : ByteArray).size = 3 := rfl
  have zs : (⟨#[115, 101, 116]⟩ : ByteArray).size = 3 := rfl
  have zc : (⟨#[99, 108, 101, 97, 114]⟩ : ByteArray).size = 5 := rfl
  have zm : (⟨#[109, 111, 114, 101]⟩ : ByteArray).size = 4 := rfl
  have zp : (⟨#[112, 114, 101, 102]⟩ : ByteArray).size = 4 := rfl
  have zt : (⟨#[32, 116, 104, 101, 110]⟩ : ByteArray).size = 5 := rfl
  have zd : (⟨#[32, 100, 114, 111, 112]⟩ : ByteArray).size = 5 := rfl
  have zi : (⟨#[9, 105, 102, 32]⟩ : ByteArray).size = 4 := rfl
  have ze : (⟨#[59, 10]⟩ : ByteArray).size = 2 := rfl
  have z0 : (⟨#[]⟩ : ByteArray).size = 0 := rfl
  -- behind the destination
  have J1 : ∀ x : ByteArray, x.size ≤ 1000 → text_Clause.j1 (k + 1) x any pa pb wi ou dr se cl mo pr = some (x ++ s ++ c ++ m ++ p ++ ⟨#[59, 10]⟩) := by
    intro x hx
    rw [text_Clause.j1, s1, Option.bind_some, if_pos (by omega), c1, Option.bind_some, if_pos (by rw [size_app]; omega), m1, Option.bind_some, if_pos (by rw [size_app, size_app]; omega), p1, Option.bind_some,
      if_pos (by rw [size_app, size_app, size_app]; omega), if_pos (by rw [size_app, size_app, size_app, size_app]; omega)]
  have J0 : ∀ x : ByteArray, x.size ≤ 500 → text_Clause.j0 (k + 2) x any pa pb wi ou dr se cl mo pr = some (x ++ w ++ o ++ ⟨#[32, 116, 104, 101, 110]⟩ ++ (if dr = true then ⟨#[32, 100, 114, 111, 112]⟩ else ⟨#[]⟩) ++ s ++ c ++ m ++ p ++ ⟨#[59, 10]⟩) := by
    intro x hx
    rw [text_Clause.j0, w1, Option.bind_some, o1, Option.bind_some, if_pos (by omega), if_pos (by rw [size_app]; omega), if_pos (by rw [size_app, size_app, zt]; omega)]
    cases dr with
    | true =>
      rw [if_pos rfl, if_pos (by rw [size_app, size_app, size_app, zt]; omega), J1 _ (by rw [size_app, size_app, size_app, size_app, zt, zd]; omega), if_pos rfl]
      simp only [assoc]
    | false =>
      rw [if_neg (by simp), J1 _ (by rw [size_app, size_app, size_app, zt]; omega), if_neg (by simp)]
      simp only [assoc, nil_app]
  have L1 : ∀ x y : ByteArray, x.size ≤ 500 → y.size ≤ 10 → maquettelaw07_line.j1 (k + 1) x y any pa pb wi ou dr se cl mo pr = some (⟨#[9, 105, 102, 32]⟩ ++ x ++ w ++ o ++ ⟨#[32, 116, 104, 101, 110]⟩ ++ y ++ s ++ c ++ m ++ p ++ ⟨#[59, 10]⟩) := by
    intro x y hx hy
    obtain ⟨dm, dm1, dm2⟩ := Option.bind_eq_some_iff.1 m2
    obtain ⟨dp, dp1, dp2⟩ := Option.bind_eq_some_iff.1 p2
    rw [maquettelaw07_line.j1, if_pos (by omega), w2', Option.bind_some, if_pos (by rw [size_app, zi]; omega), o2', Option.bind_some, if_pos (by rw [size_app, size_app, zi]; omega), if_pos (by rw [size_app, size_app, size_app, zi]; omega),
      if_pos (by rw [size_app, size_app, size_app, size_app, zi, zt]; omega), s2, Option.bind_some, if_pos (by rw [size_app, size_app, size_app, size_app, size_app, zi, zt]; omega), c2, Option.bind_some,
      if_pos (by rw [size_app, size_app, size_app, size_app, size_app, size_app, zi, zt]; omega), dm1, Option.bind_some, dm2, Option.bind_some, if_pos (by rw [size_app, size_app, size_app, size_app, size_app, size_app, size_app, zi, zt]; omega),
      dp1, Option.bind_some, dp2, Option.bind_some, if_pos (by rw [size_app, size_app, size_app, size_app, size_app, size_app, size_app, size_app, zi, zt]; omega), if_pos (by rw [size_app, size_app, size_app, size_app, size_app, size_app, size_app, size_app, size_app, zi, zt]; omega)]
  have L0 : ∀ x : ByteArray, x.size ≤ 400 → maquettelaw07_line.j0 (k + 2) x ⟨#[]⟩ any pa pb wi ou dr se cl mo pr = some (⟨#[9, 105, 102, 32]⟩ ++ x ++ w ++ o ++ ⟨#[32, 116, 104, 101, 110]⟩ ++ (if dr = true then ⟨#[32, 100, 114, 111, 112]⟩ else ⟨#[]⟩) ++ s ++ c ++ m ++ p ++ ⟨#[59, 10]⟩) := by
    intro x hx
    rw [maquettelaw07_line.j0]
    cases dr with
    | true => rw [if_pos rfl, if_pos rfl, L1 _ _ (by omega) (by omega)]
    | false => rw [if_neg (by simp), if_neg (by simp), L1 _ _ (by omega) (by omega)]
  have hbd : ∀ x : ByteArray, x.size ≤ 210 → (x ++ w ++ o ++ ⟨#[32, 116, 104, 101, 110]⟩ ++ (if dr = true then ⟨#[32, 100, 114, 111, 112]⟩ else ⟨#[]⟩) ++ s ++ c ++ m ++ p ++ ⟨#[59, 10]⟩).size ≤ 600 := by
    intro x hx
    have hd : (if dr = true then (⟨#[32, 100, 114, 111, 112]⟩ : ByteArray) else ⟨#[]⟩).size ≤ 5 := by split <;> decide
    simp only [size_app, zt, ze]
    omega
  unfold text_Clause.f maquettelaw07_line.f
  cases any with
  | true =>
    rw [if_pos rfl, if_pos rfl, J0 _ (by decide), L0 _ (by decide)]
    exact ⟨_, rfl, rfl, hbd _ (by decide)⟩
  | false =>
    rw [if_neg (by simp), if_neg (by simp)]
    rcases text_ok pa pb hb0 hb1 (k := k + 2) (by omega) with h | ⟨t, ht, hl⟩
    · exact absurd h (may_some pa pb)
    · rw [ht, Option.bind_some, Option.bind_some, if_pos (by omega), J0 _ (by rw [size_app, zi]; omega), L0 _ (by omega)]
      exact ⟨_, rfl, rfl, hbd _ (by rw [size_app, zi]; omega)⟩
/-! ### a rule's clause -/
def makeOk (n : Nat) : Bool := match maquettelaw05_Make.f 36 (n : Int) with
  | some p => decide (-9223372036854775808 ≤ p.2 ∧ p.2 < 9223372036854775808)
  | none => false
set_option maxRecDepth 100000 in
theorem make_all : ((List.range 256).all makeOk) = true := by decide +kernel
theorem make_k (n : Int) (p : Int × Int) : ∀ k, maquettelaw05_Make.f 36 n = some p → maquettelaw05_Make.f (k + 36) n = some p
  | 0, h => h
  | k + 1, h => maquettelaw05_Make.mono _ _ _ (make_k n p k h)
theorem make_at {n : Int} (h0 : 0 ≤ n) (h1 : n ≤ 255) {k : Nat} (hk : 36 ≤ k) : ∃ a b, maquettelaw05_Make.f k n = some (a, b) ∧ -9223372036854775808 ≤ b ∧ b < 9223372036854775808 := by
  have h := List.all_eq_true.1 make_all n.toNat (List.mem_range.2 (by omega))
  unfold makeOk at h
  rw [Int.toNat_of_nonneg h0] at h
  cases e : maquettelaw05_Make.f 36 n with
  | none => rw [e] at h; cases h
  | some p =>
    rw [e] at h
    have := of_decide_eq_true h
    have m := make_k n p (k - 36) e
    rw [show k - 36 + 36 = k by omega] at m
    exact ⟨p.1, p.2, m, this.1, this.2⟩
end Go.Proofs.YtjcopneljfcfoaaDoor.TxtP
