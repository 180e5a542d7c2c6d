/- Plain laws: a prefix's text, and what is read of it. -/
import Derived.Test.YtkbjjamaneiijaaDoorPreM
import Derived.Test.YtkbjjamaneiijaaDoorPPrex10
import Derived.Test.YtkbjjamaneiijaaDoorPPrex22
import Derived.Lib.CountLaws
namespace Go.Proofs.YtkbjjamaneiijaaDoor.PreT
open Go.RowKit Go.Proofs.YtkbjjamaneiijaaDoor.PPre Go.Proofs.YtkbjjamaneiijaaDoorW.PrintWords Go.Proofs.YtkbjjamaneiijaaDoorW.PrintLast Go.Proofs.YtkbjjamaneiijaaDoorW.PrintMore Go.Proofs.YtkbjjamaneiijaaDoor.PfxL
set_option linter.unusedVariables false
set_option linter.unusedSimpArgs false
abbrev Bt (l : List UInt8) : ByteArray := ⟨l.toArray⟩
abbrev D (n : Nat) : List UInt8 := Lib.decDigits n
theorem ext_data {a b : ByteArray} (h : a.data.toList = b.data.toList) : a = b := by
  cases a; cases b; congr 1; exact Array.toList_inj.1 h
theorem size_app (a b : ByteArray) : (a ++ b).size = a.size + b.size := ByteArray.size_append
theorem bt_size (l : List UInt8) : (Bt l).size = l.length := by show Array.size _ = _; simp
theorem bt_app (a b : List UInt8) : Bt a ++ Bt b = Bt (a ++ b) := by apply ext_data; simp
/-! ### separators -/
theorem idx (c : UInt8) (y : List UInt8) : ∀ x : List UInt8, c ∉ x → Lib.index (x ++ c :: y) [c] = (x.length : Int)
  | [], _ => by simp [Lib.index]
  | b :: x, h => by
    have hb : (c == b) = false := by
      rw [beq_eq_false_iff_ne]
      intro e
      exact h (by rw [e]; exact List.mem_cons_self)
    have ih := idx c y x (fun q => h (List.mem_cons_of_mem _ q))
    rw [List.cons_append, Lib.index, ih]
    simp [List.isPrefixOf, hb]
theorem idx_none (c : UInt8) : ∀ x : List UInt8, c ∉ x → Lib.index x [c] = -1
  | [], _ => by simp [Lib.index]
  | b :: x, h => by
    have hb : (c == b) = false := by
      rw [beq_eq_false_iff_ne]
      intro e
      exact h (by rw [e]; exact List.mem_cons_self)
    rw [Lib.index, idx_none c x (fun q => h (List.mem_cons_of_mem _ q))]
    simp [List.isPrefixOf, hb]
theorem cut_at (c : UInt8) (x y : List UInt8) (h : c ∉ x) : Lib.cut (x ++ c :: y) [c] = (x, y, true) := by
  unfold Lib.cut
  rw [idx c y x h, if_pos (by omega)]
  simp
theorem drop_at (c : UInt8) (x y : List UInt8) : (x ++ c :: y).drop (x.length + 1) = y := by simp
theorem count_at (c : UInt8) (x y : List UInt8) (h : c ∉ x) : Lib.count (x ++ c :: y) [c] = 1 + Lib.count y [c] := by
  rw [Lib.count_hit (by simp) (idx c y x h)]
  simp
theorem splitK_at (c : UInt8) (x y : List UInt8) (k : Nat) (h : c ∉ x) : Lib.splitK [c] 0 (k + 1) (x ++ c :: y) = x :: Lib.splitK [c] 0 k y := by
  rw [Lib.splitK, idx c y x h, if_neg (by simp)]
  simp
theorem split4 (c : UInt8) (d0 d1 d2 d3 : List UInt8) (h0 : c ∉ d0) (h1 : c ∉ d1) (h2 : c ∉ d2) (h3 : c ∉ d3) : Lib.count (d0 ++ c :: (d1 ++ c :: (d2 ++ c :: d3))) [c] = 3 ∧ Lib.splitK [c] 0 3 (d0 ++ c :: (d1 ++ c :: (d2 ++ c :: d3))) = [d0, d1, d2, d3] := by
  constructor
  · rw [count_at _ _ _ h0, count_at _ _ _ h1, count_at _ _ _ h2, Lib.count_miss (idx_none c d3 h3)]
  · rw [splitK_at _ _ _ _ h0, splitK_at _ _ _ _ h1, splitK_at _ _ _ _ h2, Lib.splitK]
/-! ### numbers -/
theorem byte_no : ∀ v : Fin 256, (46 : UInt8) ∉ D v.val ∧ (47 : UInt8) ∉ D v.val := by decide +kernel
theorem byte_itoa : ∀ v : Fin 256, strconv_Itoa.f (v.val : Int) = some (Bt (D v.val)) := by decide +kernel
theorem byte_num : ∀ v : Fin 256, prefix_number.f (Bt (D v.val)) 255 = some ((v.val : Int), true) := by decide +kernel
theorem bits_num : ∀ v : Fin 33, prefix_number.f (Bt (D v.val)) 32 = some ((v.val : Int), true) := by decide +kernel
theorem byte_len : ∀ v : Fin 256, (D v.val).length ≤ 3 := by decide +kernel
theorem byte_dig : ∀ v : Fin 256, maquettelaw05_digits.f 5 (v.val : Int) = some (Bt (D v.val)) := by decide +kernel
theorem dig_k (v : Fin 256) : ∀ k, maquettelaw05_digits.f (k + 5) (v.val : Int) = some (Bt (D v.val))
  | 0 => byte_dig v
  | k + 1 => maquettelaw05_digits.mono _ _ _ (dig_k v k)
theorem dig_at {v : Nat} (hv : v < 256) {k : Nat} (hk : 5 ≤ k) : maquettelaw05_digits.f k (v : Int) = some (Bt (D v)) := by
  have := dig_k ⟨v, hv⟩ (k - 5)
  rwa [show k - 5 + 5 = k by omega] at this
theorem itoa_at {v : Nat} (hv : v < 256) : strconv_Itoa.f (v : Int) = some (Bt (D v)) := byte_itoa ⟨v, hv⟩
theorem num_at {v : Nat} (hv : v < 256) : prefix_number.f (Bt (D v)) 255 = some ((v : Int), true) := byte_num ⟨v, hv⟩
theorem bnum_at {v : Nat} (hv : v < 33) : prefix_number.f (Bt (D v)) 32 = some ((v : Int), true) := bits_num ⟨v, hv⟩
theorem len_at {v : Nat} (hv : v < 256) : (D v).length ≤ 3 := byte_len ⟨v, hv⟩
/-! ### bytes of an address -/
theorem wraps_u32 (n : Int) (h₀ : 0 ≤ n) (h₁ : n < 2 ^ 32) : IntKind.u32.wrap n = n := by rw [IntKind.wrap_u32]; omega
theorem and255 {x : Int} (h0 : 0 ≤ x) (h1 : x < 4294967296) : Go.bits .and .u32 x 255 = x % 256 := bits_mask .u32 32 (by decide) wraps_u32 8 (by decide) x h0 h1
theorem or_u32 {x y : Int} (h0 : 0 ≤ x) (h1 : x < 4294967296) (hx : x % 256 = 0) (h2 : 0 ≤ y) (h3 : y < 256) : Go.bits .or .u32 x y = x + y :=
  bits_join .u32 32 (by decide) wraps_u32 8 x y h0 hx h1 h2 h3 (by omega)
def J (n : Nat) : List UInt8 := D (n / 16777216) ++ 46 :: (D (n / 65536 % 256) ++ 46 :: (D (n / 256 % 256) ++ 46 :: D (n % 256)))
/-- The text. -/
def T (n b : Nat) : ByteArray := Bt (J n ++ 47 :: D b)
theorem shr_at (n : Nat) (i : Nat) (hi : i ≤ 32) : shr .u32 (n : Int) (i : Int) = ((n / 2 ^ i : Nat) : Int) := by
  unfold shr
  have : min (i : Int).toNat (IntKind.u32.bits) = i := by
    have e : IntKind.u32.bits = 32 := rfl
    rw [e]
    omega
  rw [this]
  simp
theorem w64s {n : Int} (h0 : 0 ≤ n) (h1 : n < 9223372036854775808) : wrap64 n = n := by unfold wrap64; omega
theorem byte_of (n : Nat) (hn : n < 4294967296) (i p : Nat) (hi : i ≤ 32) (hp : 2 ^ i = p) : wrap64 (Go.bits .and .u32 (shr .u32 (n : Int) (i : Int)) 255) = ((n / p % 256 : Nat) : Int) := by
  have hd : n / p ≤ n := Nat.div_le_self _ _
  rw [shr_at n i hi, hp]
  clear hp
  generalize n / p = m at hd ⊢
  rw [and255 (by omega) (by omega), w64s (by omega) (by omega)]
  omega
theorem join4 (d0 d1 d2 d3 : List UInt8) (h0 : d0.length ≤ 3) (h1 : d1.length ≤ 3) (h2 : d2.length ≤ 3) (h3 : d3.length ≤ 3) : strings_Join.f [Bt d0, Bt d1, Bt d2, Bt d3] ⟨#[46]⟩ = some (Bt (d0 ++ 46 :: (d1 ++ 46 :: (d2 ++ 46 :: d3)))) := by
  have e : Lib.join ([Bt d0, Bt d1, Bt d2, Bt d3].map (·.data.toList)) (⟨#[46]⟩ : ByteArray).data.toList = d0 ++ 46 :: (d1 ++ 46 :: (d2 ++ 46 :: d3)) := by simp [Lib.join]
  unfold strings_Join.f
  rw [e, if_pos ⟨by simp, by simp; omega⟩]
def tx (d0 d1 d2 d3 db : List UInt8) : ByteArray := Bt ((d0 ++ 46 :: (d1 ++ 46 :: (d2 ++ 46 :: d3))) ++ 47 :: db)
theorem text_core (a b : Int) (d0 d1 d2 d3 db : List UInt8) (f0 : strconv_Itoa.f (wrap64 (Go.bits .and .u32 (shr .u32 a 24) 255)) = some (Bt d0)) (f1 : strconv_Itoa.f (wrap64 (Go.bits .and .u32 (shr .u32 a 16) 255)) = some (Bt d1))
    (f2 : strconv_Itoa.f (wrap64 (Go.bits .and .u32 (shr .u32 a 8) 255)) = some (Bt d2)) (f3 : strconv_Itoa.f (wrap64 (Go.bits .and .u32 (shr .u32 a 0) 255)) = some (Bt d3)) (fb : strconv_Itoa.f b = some (Bt db))
    (l0 : d0.length ≤ 3) (l1 : d1.length ≤ 3) (l2 : d2.length ≤ 3) (l3 : d3.length ≤ 3) (lb : db.length ≤ 3) (hm : prefix_May.f a b = some true) {k : Nat} (hk : 6 ≤ k) : prefix_Text.f k a b = some (tx d0 d1 d2 d3 db) := by
  obtain ⟨k, rfl⟩ : ∃ q, k = q + 5 := ⟨k - 5, by omega⟩
  have o47 : (⟨#[47]⟩ : ByteArray) = Bt [47] := rfl
  have ej := join4 d0 d1 d2 d3 l0 l1 l2 l3
  unfold prefix_Text.f
  rw [hm, Option.bind_some, if_pos rfl,
    prefix_Text.l0, if_pos (by decide), if_pos (by decide), f0, Option.bind_some, if_pos (by simp), show wrap64 (24 - 8) = 16 by unfold wrap64; omega,
    prefix_Text.l0, if_pos (by decide), if_pos (by decide), f1, Option.bind_some, if_pos (by simp), show wrap64 (16 - 8) = 8 by unfold wrap64; omega,
    prefix_Text.l0, if_pos (by decide), if_pos (by decide), f2, Option.bind_some, if_pos (by simp), show wrap64 (8 - 8) = 0 by unfold wrap64; omega,
    prefix_Text.l0, if_pos (by decide), if_pos (by decide), f3, Option.bind_some, if_pos (by simp), show wrap64 (0 - 8) = -8 by unfold wrap64; omega,
    prefix_Text.l0, if_neg (by decide), show [] ++ [Bt d0] ++ [Bt d1] ++ [Bt d2] ++ [Bt d3] = [Bt d0, Bt d1, Bt d2, Bt d3] from rfl, ej, Option.bind_some, if_pos (by rw [bt_size]; simp; omega), fb, Option.bind_some, o47, bt_app, bt_app, if_pos (by rw [bt_size, bt_size]; simp; omega)]
  unfold tx
  simp
theorem parse_core (a b v0 v1 v2 v3 : Int) (d0 d1 d2 d3 db : List UInt8) (g0 : prefix_number.f (Bt d0) 255 = some (v0, true)) (g1 : prefix_number.f (Bt d1) 255 = some (v1, true)) (g2 : prefix_number.f (Bt d2) 255 = some (v2, true)) (g3 : prefix_number.f (Bt d3) 255 = some (v3, true))
    (gb : prefix_number.f (Bt db) 32 = some (b, true)) (l0 : d0.length ≤ 3) (l1 : d1.length ≤ 3) (l2 : d2.length ≤ 3) (l3 : d3.length ≤ 3) (lb : db.length ≤ 3)
    (n0 : (46 : UInt8) ∉ d0 ∧ (47 : UInt8) ∉ d0) (n1 : (46 : UInt8) ∉ d1 ∧ (47 : UInt8) ∉ d1) (n2 : (46 : UInt8) ∉ d2 ∧ (47 : UInt8) ∉ d2) (n3 : (46 : UInt8) ∉ d3 ∧ (47 : UInt8) ∉ d3)
    (w0 : 0 ≤ v0 ∧ v0 < 256) (w1 : 0 ≤ v1 ∧ v1 < 256) (w2 : 0 ≤ v2 ∧ v2 < 256) (w3 : 0 ≤ v3 ∧ v3 < 256) (ha : a = ((v0 * 256 + v1) * 256 + v2) * 256 + v3) (hm : prefix_May.f a b = some true) {k : Nat} (hk : 10 ≤ k) :
    prefix_Parse.f k (tx d0 d1 d2 d3 db) = some (a, b, true) := by
  obtain ⟨k, rfl⟩ : ∃ q, k = q + 6 := ⟨k - 6, by omega⟩
  have hJ : (47 : UInt8) ∉ d0 ++ 46 :: (d1 ++ 46 :: (d2 ++ 46 :: d3)) := by
    simp only [List.mem_append, List.mem_cons, not_or]
    exact ⟨n0.2, by decide, n1.2, by decide, n2.2, by decide, n3.2⟩
  have eC : strings_Cut.f (tx d0 d1 d2 d3 db) ⟨#[47]⟩ = some (Bt (d0 ++ 46 :: (d1 ++ 46 :: (d2 ++ 46 :: d3))), Bt db, true) := by
    unfold strings_Cut.f
    rw [if_pos (by unfold tx; rw [bt_size]; simp; omega)]
    have : Lib.cut (tx d0 d1 d2 d3 db).data.toList (⟨#[47]⟩ : ByteArray).data.toList = (d0 ++ 46 :: (d1 ++ 46 :: (d2 ++ 46 :: d3)), db, true) := by
      have q := cut_at 47 _ db hJ
      unfold tx
      show Lib.cut (((d0 ++ 46 :: (d1 ++ 46 :: (d2 ++ 46 :: d3))) ++ 47 :: db).toArray).toList [47] = _
      rw [List.toList_toArray]
      exact q
    rw [this]
  obtain ⟨c1, c2⟩ := split4 46 _ _ _ _ n0.1 n1.1 n2.1 n3.1
  have eS : strings_Split.f (Bt (d0 ++ 46 :: (d1 ++ 46 :: (d2 ++ 46 :: d3)))) ⟨#[46]⟩ = some [Bt d0, Bt d1, Bt d2, Bt d3] := by
    unfold strings_Split.f
    rw [if_pos ⟨by rw [bt_size]; simp; omega, by decide⟩]
    have e3 : Lib.countB (Bt (d0 ++ 46 :: (d1 ++ 46 :: (d2 ++ 46 :: d3)))) ⟨#[46]⟩ = 3 := by
      show Lib.count (d0 ++ 46 :: (d1 ++ 46 :: (d2 ++ 46 :: d3))).toArray.toList [46] = 3
      rw [List.toList_toArray]
      exact c1
    rw [e3]
    have h := Lib.splitB_data (⟨#[46]⟩ : ByteArray) 0 3 (Bt (d0 ++ 46 :: (d1 ++ 46 :: (d2 ++ 46 :: d3))))
    have h2 : Lib.splitK (⟨#[46]⟩ : ByteArray).data.toList 0 3 (Bt (d0 ++ 46 :: (d1 ++ 46 :: (d2 ++ 46 :: d3)))).data.toList = [d0, d1, d2, d3] := by
      show Lib.splitK [46] 0 3 (d0 ++ 46 :: (d1 ++ 46 :: (d2 ++ 46 :: d3))).toArray.toList = _
      rw [List.toList_toArray]
      exact c2
    rw [h2] at h
    refine congrArg some ?_
    have inj : ∀ l m : List ByteArray, l.map (·.data.toList) = m.map (·.data.toList) → l = m := by
      intro l
      induction l with
      | nil => intro m e; cases m with
        | nil => rfl
        | cons _ _ => cases e
      | cons a l ih => intro m e; cases m with
        | nil => cases e
        | cons b m =>
          simp only [List.map_cons, List.cons.injEq] at e
          rw [ext_data e.1, ih m e.2]
    apply inj
    rw [h]
    simp
  have key : ∀ x : Int, x = a → ((prefix_May.f x b).bind fun t124 => (if t124 = true then (some (x, b, true)) else (some (0, 0, false)))) = some (a, b, true) := by
    rintro x rfl
    rw [hm, Option.bind_some, if_pos rfl]
  unfold prefix_Parse.f
  rw [eC, Option.bind_some, gb, Option.bind_some, eS, Option.bind_some, if_pos rfl, if_pos rfl, prefix_Parse.j0, if_neg (by simp)]
  simp only [List.length_cons, List.length_nil]
  rw [prefix_Parse.l0, if_pos (by decide), if_pos (by decide), if_pos (by simp), show rdOf ByteArray.empty [Bt d0, Bt d1, Bt d2, Bt d3] 0 = Bt d0 from rfl, g0, Option.bind_some, if_pos rfl, show wrap64 (0 + 1) = 1 by unfold wrap64; omega,
    or_u32 (by omega) (by omega) (by omega) (by omega) (by omega),
    prefix_Parse.l0, if_pos (by decide), if_pos (by decide), if_pos (by simp), show rdOf ByteArray.empty [Bt d0, Bt d1, Bt d2, Bt d3] 1 = Bt d1 from rfl, g1, Option.bind_some, if_pos rfl, show wrap64 (1 + 1) = 2 by unfold wrap64; omega,
    or_u32 (by omega) (by omega) (by omega) (by omega) (by omega),
    prefix_Parse.l0, if_pos (by decide), if_pos (by decide), if_pos (by simp), show rdOf ByteArray.empty [Bt d0, Bt d1, Bt d2, Bt d3] 2 = Bt d2 from rfl, g2, Option.bind_some, if_pos rfl, show wrap64 (2 + 1) = 3 by unfold wrap64; omega,
    or_u32 (by omega) (by omega) (by omega) (by omega) (by omega),
    prefix_Parse.l0, if_pos (by decide), if_pos (by decide), if_pos (by simp), show rdOf ByteArray.empty [Bt d0, Bt d1, Bt d2, Bt d3] 3 = Bt d3 from rfl, g3, Option.bind_some, if_pos rfl, show wrap64 (3 + 1) = 4 by unfold wrap64; omega,
    or_u32 (by omega) (by omega) (by omega) (by omega) (by omega),
    prefix_Parse.l0, if_neg (by decide)]
  exact key _ (by omega)
theorem ltext_core (a b : Int) (d0 d1 d2 d3 db : List UInt8) {k : Nat} (g0 : maquettelaw05_digits.f k (wrap64 (a / 16777216)) = some (Bt d0)) (g1 : maquettelaw05_digits.f k (wrap64 (Go.bits .and .u32 (a / 65536) 255)) = some (Bt d1)) (g2 : maquettelaw05_digits.f k (wrap64 (Go.bits .and .u32 (a / 256) 255)) = some (Bt d2))
    (g3 : maquettelaw05_digits.f k (wrap64 (Go.bits .and .u32 a 255)) = some (Bt d3)) (gb : maquettelaw05_digits.f k b = some (Bt db)) (l0 : d0.length ≤ 3) (l1 : d1.length ≤ 3) (l2 : d2.length ≤ 3) (l3 : d3.length ≤ 3) (lb : db.length ≤ 3) : maquettelaw05_text.f k a b = some (tx d0 d1 d2 d3 db) := by
  have o46 : (⟨#[46]⟩ : ByteArray) = Bt [46] := rfl
  have o47 : (⟨#[47]⟩ : ByteArray) = Bt [47] := rfl
  unfold maquettelaw05_text.f
  rw [g0, g1, g2, g3, gb]
  simp only [Option.bind_some, o46, o47, bt_app, bt_size, List.length_append, List.length_cons, List.length_nil]
  rw [if_pos (by omega), if_pos (by omega), if_pos (by omega), if_pos (by omega), if_pos (by omega), if_pos (by omega), if_pos (by omega), if_pos (by omega)]
  unfold tx
  simp
/-! ### of an address -/
theorem parts (a : Int) (h0 : 0 ≤ a) (h1 : a < 4294967296) : ∃ v0 v1 v2 v3 : Nat, v0 < 256 ∧ v1 < 256 ∧ v2 < 256 ∧ v3 < 256 ∧ a = (((v0 : Int) * 256 + v1) * 256 + v2) * 256 + v3 ∧
    wrap64 (Go.bits .and .u32 (shr .u32 a 24) 255) = v0 ∧ wrap64 (Go.bits .and .u32 (shr .u32 a 16) 255) = v1 ∧ wrap64 (Go.bits .and .u32 (shr .u32 a 8) 255) = v2 ∧ wrap64 (Go.bits .and .u32 (shr .u32 a 0) 255) = v3 ∧
    wrap64 (a / 16777216) = v0 ∧ wrap64 (Go.bits .and .u32 (a / 65536) 255) = v1 ∧ wrap64 (Go.bits .and .u32 (a / 256) 255) = v2 ∧ wrap64 (Go.bits .and .u32 a 255) = v3 := by
  have s24 : shr .u32 a 24 = a / 16777216 := by unfold shr; rw [show (2 : Int) ^ min (24 : Int).toNat IntKind.u32.bits = 16777216 by decide]
  have s16 : shr .u32 a 16 = a / 65536 := by unfold shr; rw [show (2 : Int) ^ min (16 : Int).toNat IntKind.u32.bits = 65536 by decide]
  have s8 : shr .u32 a 8 = a / 256 := by unfold shr; rw [show (2 : Int) ^ min (8 : Int).toNat IntKind.u32.bits = 256 by decide]
  have s0 : shr .u32 a 0 = a := by unfold shr; rw [show (2 : Int) ^ min (0 : Int).toNat IntKind.u32.bits = 1 by decide, Int.ediv_one]
  refine ⟨(a / 16777216).toNat, (a / 65536 % 256).toNat, (a / 256 % 256).toNat, (a % 256).toNat, by omega, by omega, by omega, by omega, by omega, ?_⟩
  rw [s24, s16, s8, s0, and255 (x := a / 16777216) (by omega) (by omega), and255 (x := a / 65536) (by omega) (by omega), and255 (x := a / 256) (by omega) (by omega), and255 h0 h1]
  rw [w64s (n := a / 16777216 % 256) (by omega) (by omega), w64s (n := a / 65536 % 256) (by omega) (by omega), w64s (n := a / 256 % 256) (by omega) (by omega), w64s (n := a % 256) (by omega) (by omega), w64s (n := a / 16777216) (by omega) (by omega)]
  refine ⟨by omega, by omega, by omega, by omega, by omega, by omega, by omega, by omega⟩
/-- Its text, as both tell it; and what is read of that. -/
theorem text_all (a b : Int) (h0 : 0 ≤ a) (h1 : a < 4294967296) (hm : May a b) : ∃ t, (∀ k, 6 ≤ k → prefix_Text.f k a b = some t) ∧ (∀ k, 10 ≤ k → prefix_Parse.f k t = some (a, b, true)) ∧ (∀ k, 5 ≤ k → maquettelaw05_text.f k a b = some t) := by
  obtain ⟨v0, v1, v2, v3, q0, q1, q2, q3, ha, e0, e1, e2, e3, f0, f1, f2, f3⟩ := parts a h0 h1
  obtain ⟨m, hb⟩ : ∃ m : Nat, b = m := ⟨b.toNat, (Int.toNat_of_nonneg hm.1).symm⟩
  have hm33 : m < 33 := by have := hm.2.1; omega
  have hmay : prefix_May.f a b = some true := by rw [may_f, decide_eq_true hm]
  subst hb
  have n0 := byte_no ⟨v0, q0⟩
  have n1 := byte_no ⟨v1, q1⟩
  have n2 := byte_no ⟨v2, q2⟩
  have n3 := byte_no ⟨v3, q3⟩
  have m256 : m < 256 := Nat.lt_of_lt_of_le hm33 (by decide)
  have b0 : 0 ≤ (v0 : Int) ∧ (v0 : Int) < 256 := ⟨Int.natCast_nonneg _, (Int.ofNat_lt.2 q0 : ((v0 : Nat) : Int) < ((256 : Nat) : Int))⟩
  have b1 : 0 ≤ (v1 : Int) ∧ (v1 : Int) < 256 := ⟨Int.natCast_nonneg _, (Int.ofNat_lt.2 q1 : ((v1 : Nat) : Int) < ((256 : Nat) : Int))⟩
  have b2 : 0 ≤ (v2 : Int) ∧ (v2 : Int) < 256 := ⟨Int.natCast_nonneg _, (Int.ofNat_lt.2 q2 : ((v2 : Nat) : Int) < ((256 : Nat) : Int))⟩
  have b3 : 0 ≤ (v3 : Int) ∧ (v3 : Int) < 256 := ⟨Int.natCast_nonneg _, (Int.ofNat_lt.2 q3 : ((v3 : Nat) : Int) < ((256 : Nat) : Int))⟩
  have i0 := itoa_at q0
  have i1 := itoa_at q1
  have i2 := itoa_at q2
  have i3 := itoa_at q3
  have im := itoa_at m256
  have g0 := num_at q0
  have g1 := num_at q1
  have g2 := num_at q2
  have g3 := num_at q3
  have gm := bnum_at hm33
  have l0 := len_at q0
  have l1 := len_at q1
  have l2 := len_at q2
  have l3 := len_at q3
  have lm := len_at m256
  have n0' : (46 : UInt8) ∉ D v0 ∧ (47 : UInt8) ∉ D v0 := n0
  have n1' : (46 : UInt8) ∉ D v1 ∧ (47 : UInt8) ∉ D v1 := n1
  have n2' : (46 : UInt8) ∉ D v2 ∧ (47 : UInt8) ∉ D v2 := n2
  have n3' : (46 : UInt8) ∉ D v3 ∧ (47 : UInt8) ∉ D v3 := n3
  have j0 := fun k hk => @dig_at v0 q0 k hk
  have j1 := fun k hk => @dig_at v1 q1 k hk
  have j2 := fun k hk => @dig_at v2 q2 k hk
  have j3 := fun k hk => @dig_at v3 q3 k hk
  have jm := fun k hk => @dig_at m m256 k hk
  clear n0 n1 n2 n3
  rw [← e0] at i0
  rw [← e1] at i1
  rw [← e2] at i2
  rw [← e3] at i3
  clear e0 e1 e2 e3
  generalize D v0 = d0 at *
  generalize D v1 = d1 at *
  generalize D v2 = d2 at *
  generalize D v3 = d3 at *
  generalize D m = dm at *
  refine ⟨tx d0 d1 d2 d3 dm, fun k hk => ?_, fun k hk => ?_, fun k hk => ?_⟩
  · exact text_core a m d0 d1 d2 d3 dm i0 i1 i2 i3 im l0 l1 l2 l3 lm hmay hk
  · exact parse_core a m v0 v1 v2 v3 d0 d1 d2 d3 dm g0 g1 g2 g3 gm l0 l1 l2 l3 lm n0' n1' n2' n3' b0 b1 b2 b3 ha hmay hk
  · exact ltext_core a m d0 d1 d2 d3 dm (by rw [f0]; exact j0 k hk) (by rw [f1]; exact j1 k hk) (by rw [f2]; exact j2 k hk) (by rw [f3]; exact j3 k hk) (jm k hk) l0 l1 l2 l3 lm
end Go.Proofs.YtkbjjamaneiijaaDoor.PreT
