/- Plain laws: a prefix's text, and what is read of it. -/
import Derived.Test.YtbclogifkifaaaaDoorPreM
import Derived.Test.YtbclogifkifaaaaDoorPPrex7
import Derived.Test.YtbclogifkifaaaaDoorPPrex10
import Derived.Test.YtbclogifkifaaaaDoorPPrex13
import Derived.Lib.CountLaws
namespace Go.Proofs.YtbclogifkifaaaaDoor.PreT
open Go.RowKit Go.Proofs.YtbclogifkifaaaaDoor.PPre Go.Proofs.YtbclogifkifaaaaDoorW.PrintWords Go.Proofs.YtbclogifkifaaaaDoorW.PrintLast Go.Proofs.YtbclogifkifaaaaDoorW.PrintMore Go.Proofs.YtbclogifkifaaaaDoor.PfxL
set_option linter.unusedVariables false
set_option linter.unusedSimpArgs false
abbrev Bt (l : List UInt8) : ByteArray := ⟨l.toArray⟩
abbrev D (n : Nat) : List UInt8 := Lib.decDigits n
theorem ext_data {a b : ByteArray} (h : a.data.toList = b.data.toList) : a = b := by
  cases a; cases b; congr 1; exact Array.toList_inj.1 h
theorem bt_size (l : List UInt8) : (Bt l).size = l.length := by show Array.size _ = _; simp
theorem bt_app (a b : List UInt8) : Bt a ++ Bt b = Bt (a ++ b) := by apply ext_data; simp
/-! ### separators -/
/-! ### numbers -/
theorem byte_len : ∀ v : Fin 256, (D v.val).length ≤ 3 := by decide +kernel
theorem byte_dig : ∀ v : Fin 256, maquettelaw05_digits.f 5 (v.val : Int) = some (Bt (D v.val)) := by decide +kernel
theorem dig_k (v : Fin 256) : ∀ k, maquettelaw05_digits.f (k + 5) (v.val : Int) = some (Bt (D v.val))
  | 0 => byte_dig v
  | k + 1 => maquettelaw05_digits.mono _ _ _ (dig_k v k)
theorem dig_at {v : Nat} (hv : v < 256) {k : Nat} (hk : 5 ≤ k) : maquettelaw05_digits.f k (v : Int) = some (Bt (D v)) := by
  have := dig_k ⟨v, hv⟩ (k - 5)
  rwa [show k - 5 + 5 = k by omega] at this
theorem len_at {v : Nat} (hv : v < 256) : (D v).length ≤ 3 := byte_len ⟨v, hv⟩
/-! ### bytes of an address -/
theorem wraps_u32 (n : Int) (h₀ : 0 ≤ n) (h₁ : n < 2 ^ 32) : IntKind.u32.wrap n = n := by rw [IntKind.wrap_u32]; omega
theorem and255 {x : Int} (h0 : 0 ≤ x) (h1 : x < 4294967296) : Go.bits .and .u32 x 255 = x % 256 := bits_mask .u32 32 (by decide) wraps_u32 8 (by decide) x h0 h1
theorem or_u32 {x y : Int} (h0 : 0 ≤ x) (h1 : x < 4294967296) (hx : x % 256 = 0) (h2 : 0 ≤ y) (h3 : y < 256) : Go.bits .or .u32 x y = x + y :=
  bits_join .u32 32 (by decide) wraps_u32 8 x y h0 hx h1 h2 h3 (by omega)
theorem w64s {n : Int} (h0 : 0 ≤ n) (h1 : n < 9223372036854775808) : wrap64 n = n := by unfold wrap64; omega
def tx (d0 d1 d2 d3 db : List UInt8) : ByteArray := Bt ((d0 ++ 46 :: (d1 ++ 46 :: (d2 ++ 46 :: d3))) ++ 47 :: db)
theorem ltext_core (a b : Int) (d0 d1 d2 d3 db : List UInt8) {k : Nat} (g0 : maquettelaw05_digits.f k (wrap64 (a / 16777216)) = some (Bt d0)) (g1 : maquettelaw05_digits.f k (wrap64 (Go.bits .and .u32 (a / 65536) 255)) = some (Bt d1)) (g2 : maquettelaw05_digits.f k (wrap64 (Go.bits .and .u32 (a / 256) 255)) = some (Bt d2))
    (g3 : maquettelaw05_digits.f k (wrap64 (Go.bits .and .u32 a 255)) = some (Bt d3)) (gb : maquettelaw05_digits.f k b = some (Bt db)) (l0 : d0.length ≤ 3) (l1 : d1.length ≤ 3) (l2 : d2.length ≤ 3) (l3 : d3.length ≤ 3) (lb : db.length ≤ 3) : maquettelaw05_text.f k a b = some (tx d0 d1 d2 d3 db) := by
  have o46 : (⟨#[46]⟩ : ByteArray) = Bt [46] := rfl
  have o47 : (⟨#[47]⟩ : ByteArray) = Bt [47] := rfl
  unfold maquettelaw05_text.f
  rw [g0, g1, g2, g3, gb]
  simp only [Option.bind_some, o46, o47, bt_app, bt_size, List.length_append, List.length_cons, List.length_nil]
  rw [if_pos (by omega), if_pos (by omega), if_pos (by omega), if_pos (by omega), if_pos (by omega), if_pos (by omega), if_pos (by omega), if_pos (by omega)]
  unfold tx
  simp
/-! ### of an address -/
theorem parts (a : Int) (h0 : 0 ≤ a) (h1 : a < 4294967296) : ∃ v0 v1 v2 v3 : Nat, v0 < 256 ∧ v1 < 256 ∧ v2 < 256 ∧ v3 < 256 ∧ a = (((v0 : Int) * 256 + v1) * 256 + v2) * 256 + v3 ∧
    wrap64 (Go.bits .and .u32 (shr .u32 a 24) 255) = v0 ∧ wrap64 (Go.bits .and .u32 (shr .u32 a 16) 255) = v1 ∧ wrap64 (Go.bits .and .u32 (shr .u32 a 8) 255) = v2 ∧ wrap64 (Go.bits .and .u32 (shr .u32 a 0) 255) = v3 ∧
    wrap64 (a / 16777216) = v0 ∧ wrap64 (Go.bits .and .u32 (a / 65536) 255) = v1 ∧ wrap64 (Go.bits .and .u32 (a / 256) 255) = v2 ∧ wrap64 (Go.bits .and .u32 a 255) = v3 := by
  have s24 : shr .u32 a 24 = a / 16777216 := by unfold shr; rw [show (2 : Int) ^ min (24 : Int).toNat IntKind.u32.bits = 16777216 by decide]
  have s16 : shr .u32 a 16 = a / 65536 := by unfold shr; rw [show (2 : Int) ^ min (16 : Int).toNat IntKind.u32.bits = 65536 by decide]
  have s8 : shr .u32 a 8 = a / 256 := by unfold shr; rw [show (2 : Int) ^ min (8 : Int).toNat IntKind.u32.bits = 256 by decide]
  have s0 : shr .u32 a 0 = a := by unfold shr; rw [show (2 : Int) ^ min (0 : Int).toNat IntKind.u32.bits = 1 by decide, Int.ediv_one]
  refine ⟨(a / 16777216).toNat, (a / 65536 % 256).toNat, (a / 256 % 256).toNat, (a % 256).toNat, by omega, by omega, by omega, by omega, by omega, ?_⟩
  rw [s24, s16, s8, s0, and255 (x := a / 16777216) (by omega) (by omega), and255 (x := a / 65536) (by omega) (by omega), and255 (x := a / 256) (by omega) (by omega), and255 h0 h1]
  rw [w64s (n := a / 16777216 % 256) (by omega) (by omega), w64s (n := a / 65536 % 256) (by omega) (by omega), w64s (n := a / 256 % 256) (by omega) (by omega), w64s (n := a % 256) (by omega) (by omega), w64s (n := a / 16777216) (by omega) (by omega)]
  refine ⟨by omega, by omega, by omega, by omega, by omega, by omega, by omega, by omega⟩
end Go.Proofs.YtbclogifkifaaaaDoor.PreT
