/- Texts of this work, joined: PTbx13, PTbx14. -/
import Derived.Test.YthodilggomedgaaDoorShort
import Derived.Test.YthodilggomedgaaDoorPTbx0
section
namespace Go.Proofs.YthodilggomedgaaDoor.PTb
open Go.RowKit Go.Proofs.YthodilggomedgaaDoor.Short Go.Proofs.YthodilggomedgaaDoorW.PrintWords Go.Proofs.YthodilggomedgaaDoorW.PrintLast Go.Proofs.YthodilggomedgaaDoorW.PrintMore
attribute [local go_sem] max2_int min2_int max_two min_two max_three min_three max_four min_four   -- for this text's walks alone
set_option linter.unusedVariables false
set_option linter.unusedSimpArgs false

/-! ### strconv_Atoi: function 24 -/
def strconv_Atoi.f (a0 : ByteArray) : Option (Int × Option Int) := if a0.size ≤ 281474976710656 then (match Go.Lib.atoiAll a0.data.toList with | .ok v => some (v, none) | .«syntax» => some (0, some 0) | .range => some (Go.Lib.atoiSat a0.data.toList, some 0)) else none
theorem strconv_Atoi.calls (a0 : ByteArray) (r1 : Int) (r2 : Option Int) (w : World) (h : strconv_Atoi.f a0 = some (r1, r2)) (hInv : Go.Proofs.YthodilggomedgaaDoor.Inv.Inv w) (hn : r2 = none := by rfl) :
  Calls Tryd.prog 24 #[.string a0] w fun e w' => e = .returned (.tuple #[.int .i64 r1, errW r2]) ∧ Below w.heap.size w w' := by
 subst hn
 unfold strconv_Atoi.f at h
 split at h
 ·rename_i h1
  cases ha : Go.Lib.atoiAll a0.data.toList with
  | ok v =>
   rw [ha] at h
   simp only [Option.some.injEq, Prod.mk.injEq] at h
   obtain ⟨rfl, _⟩ := h
   exact (Tryd.strconv_Atoi_ok a0 (by omega) v ha w).mono fun e w' ⟨he, hw⟩ => ⟨by rw [he]; rfl, by rcases hw with rfl | ⟨t, rfl⟩ <;> first | exact Below.refl _ _ | exact Go.Proofs.YthodilggomedgaaDoor.Libs.bytes_below _ _ _⟩
  | «syntax» => rw [ha] at h; simp at h
  | range => rw [ha] at h; simp at h
 ·cases h
/-- Where it ends in an error: one, of which nothing is told. -/
theorem strconv_Atoi.errs (a0 : ByteArray) (r1 q : Int) (w : World) (h : strconv_Atoi.f a0 = some (r1, some q)) (hInv : Go.Proofs.YthodilggomedgaaDoor.Inv.Inv w) :
  Calls Tryd.prog 24 #[.string a0] w fun e w' => ∃ te pe, e = .returned (.tuple #[.int .i64 r1, .iface te pe]) ∧ Below w.heap.size w w' := by
 unfold strconv_Atoi.f at h
 split at h
 ·rename_i h1
  cases ha : Go.Lib.atoiAll a0.data.toList with
  | ok v => rw [ha] at h; simp at h
  | «syntax» =>
   rw [ha] at h
   simp only [Option.some.injEq, Prod.mk.injEq] at h
   obtain ⟨rfl, _⟩ := h
   obtain ⟨ev, hv, hev⟩ := hInv.syn
   exact (Tryd.strconv_Atoi_syntax a0 h1 ha ev w hv hev).mono fun e w' ⟨N, he, _, _, hb⟩ => ⟨_, _, he, hb⟩
  | range =>
   rw [ha] at h
   simp only [Option.some.injEq, Prod.mk.injEq] at h
   obtain ⟨rfl, _⟩ := h
   obtain ⟨ev, hv, hev⟩ := hInv.rng
   exact (Tryd.strconv_Atoi_range a0 h1 ha ev w hv hev).mono fun e w' ⟨N, he, _, _, hb⟩ => ⟨_, _, he, hb⟩
 ·cases h

end Go.Proofs.YthodilggomedgaaDoor.PTb
end
section
namespace Go.Proofs.YthodilggomedgaaDoor.PTb
open Go.RowKit Go.Proofs.YthodilggomedgaaDoor.Short Go.Proofs.YthodilggomedgaaDoorW.PrintWords Go.Proofs.YthodilggomedgaaDoorW.PrintLast Go.Proofs.YthodilggomedgaaDoorW.PrintMore
attribute [local go_sem] max2_int min2_int max_two min_two max_three min_three max_four min_four   -- for this text's walks alone
set_option linter.unusedVariables false
set_option linter.unusedSimpArgs false

/-! ### strconv_Itoa: function 25 -/
def strconv_Itoa.f (a0 : Int) : Option ByteArray := if -9223372036854775808 ≤ a0 ∧ a0 ≤ 9223372036854775807 then some ⟨(Go.Lib.itoa a0).toArray⟩ else none
theorem strconv_Itoa.calls (a0 : Int) (r : ByteArray) (w : World) (h : strconv_Itoa.f a0 = some r) (hInv : Go.Proofs.YthodilggomedgaaDoor.Inv.Inv w) :
  Calls Tryd.prog 25 #[.int .i64 a0] w fun e w' => e = .returned (.string r) ∧ Below w.heap.size w w' := by
 unfold strconv_Itoa.f at h
 split at h
 ·rename_i h1
  obtain rfl := Option.some.inj h
  exact Go.Proofs.YthodilggomedgaaDoor.Libs.itoa_calls a0 h1.1 h1.2 w hInv
 ·cases h

end Go.Proofs.YthodilggomedgaaDoor.PTb
end
