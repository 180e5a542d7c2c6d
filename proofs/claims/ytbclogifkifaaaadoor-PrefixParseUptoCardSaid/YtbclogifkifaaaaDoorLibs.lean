/- The library's functions on numbers and texts, and prefix.number, each with the frame that the printer asks. -/
import Derived.Test.YtbclogifkifaaaaDoorShelf
import Derived.Test.YtbclogifkifaaaaDoorInv
import Derived.Test.YtbclogifkifaaaaDoorWMore
import Derived.Lib.AppendIntMem
namespace Go.Proofs.YtbclogifkifaaaaDoor.Libs
open Go.RowKit Go.Proofs.YtbclogifkifaaaaDoor.Inv
open Go.Proofs.YtbclogifkifaaaaDoorW.PrintWords (Kd encs)
set_option linter.unusedVariables false
set_option linter.unusedSimpArgs false
theorem drewN_below (w : World) (n : Nat) : Below w.heap.size w (w.drewN n) := ⟨rfl, rfl, rfl, Nat.le_refl _, fun _ _ => rfl⟩
theorem bytes_below (w : World) (t : ByteArray) (e : TypeId) : Below w.heap.size w (Lib.bytesWorld w e t) :=
  ⟨rfl, rfl, rfl, by simp [Lib.bytesWorld, World.freeze, World.alloc, World.drew, -World.alloc_eq, -World.drew_eq], fun k hk => Lib.bytesWorld_at_old w e t k hk⟩
theorem itoa_calls (n : Int) (h0 : -9223372036854775808 ≤ n) (h1 : n ≤ 9223372036854775807) (w : World) (hI : Inv w) :
    Calls Tryd.prog 16 #[.int .i64 n] w fun e w' => e = .returned (.string ⟨(Lib.itoa n).toArray⟩) ∧ Below w.heap.size w w' :=
  (Tryd.strconv_Itoa n h0 h1 w hI.tab).mono fun e w' ⟨he, k, os, hw⟩ => ⟨he, by rw [hw]; exact Lib.below_grow _ w (Nat.le_refl _) k os⟩
theorem cut_calls (s sep : ByteArray) (hs : s.size < 4294967281) (w : World) (hI : Inv w) :
    Calls Tryd.prog 11 #[.string s, .string sep] w fun e w' => e = .returned (.tuple #[.string ⟨(Lib.cut s.data.toList sep.data.toList).1.toArray⟩, .string ⟨(Lib.cut s.data.toList sep.data.toList).2.1.toArray⟩, .bool (Lib.cut s.data.toList sep.data.toList).2.2]) ∧ Below w.heap.size w w' := by
  obtain ⟨m, hm⟩ := hI.mx
  exact (Tryd.strings_Cut s sep m w hs hm).mono fun e w' ⟨he, n, hw⟩ => ⟨he, by rw [hw]; exact drewN_below w n⟩
theorem split_calls (s sep : ByteArray) (hs : s.size < 4294967281) (h1 : 1 ≤ sep.size) (w : World) (hI : Inv w) :
    Calls Tryd.prog 13 #[.string s, .string sep] w fun e w' => ∃ v0_ : Value, e = .returned v0_ ∧ Kd.R Kd.string 9 w' w.heap.size (fun _ => True) v0_ (Lib.splitB sep 0 (Lib.countB s sep) s) ∧ Below w.heap.size w w' := by
  obtain ⟨m, hm⟩ := hI.mx
  refine (Tryd.strings_Split s sep m w hs hm h1).mono fun e w' ⟨he, hw⟩ => ⟨_, he, ?_, by rw [hw]; exact (Below.refl _ _).alloc (Nat.le_refl _) _⟩
  have hlen := Lib.splitB_all sep h1 0 _ s rfl
  have hc := Lib.countB_le sep h1 s.size s (Nat.le_refl _)
  rw [hw]
  refine Kd.R_of_own ?_ (fun _ _ => trivial)
  rw [hlen]
  have := World.ownsRow_lit (base := w.heap.size) (size := 1) (e := 9) w ((Lib.splitB sep 0 (Lib.countB s sep) s).map Value.string).toArray (Lib.countB s sep + 1) (Nat.le_refl _) (by have e : maxLen = 9223372036854775807 := rfl; omega) (by simp [hlen])
  simpa [encs] using this
def numb (s : ByteArray) : Int := match Lib.atoiAll s.data.toList with
  | .ok v => v
  | .«syntax» => 0
  | .range => Lib.atoiSat s.data.toList
def numOk (s : ByteArray) (most : Int) : Bool := match Lib.atoiAll s.data.toList with
  | .ok v => decide (v ≥ 0) && (decide (v ≤ most) && (Lib.itoa v == s.data.toList))
  | _ => false
theorem number_calls (s : ByteArray) (most : Int) (hlim : s.size ≤ 281474976710656) (w : World) (hI : Inv w) :
    Calls Tryd.prog 12 #[.string s, .int .i64 most] w fun e w' => e = .returned (.tuple #[.int .i64 (numb s), .bool (numOk s most)]) ∧ Below w.heap.size w w' := by
  unfold numb numOk
  cases h : Lib.atoiAll s.data.toList with
  | ok v =>
    obtain ⟨b1, b2⟩ := Lib.atoiAll_bounds h
    by_cases h0 : v ≥ 0
    · by_cases h1 : v ≤ most
      · go_enter Tryd.func12, Tryd.ntmps12
        go_wp2_with (first
          | (go_at_call 19; refine (Tryd.strconv_Atoi_ok s (by omega) v h _).mono ?_; rintro e w1 ⟨rfl, hw⟩; have hb : Below w.heap.size w w1 := (by rcases hw with rfl | ⟨t, rfl⟩ <;> first | exact Below.refl _ _ | exact bytes_below _ _ _); clear hw)
          | (go_at_call 16; refine (itoa_calls v (by omega) (by omega) _ (by first | exact hI.below hb | exact (hI.below hb).drew | exact (hI.below hb).drewN _)).mono ?_; rintro e w2 ⟨rfl, hb2⟩))
        refine bodyPost_ret (results_tmp2 rfl _ _ _) rfl ?_
        refine ⟨?_, hb.trans (hb2.mono hb.size)⟩
        simp [h0, h1, ByteArray.toList_eq]
      · go_enter Tryd.func12, Tryd.ntmps12
        go_wp2_with (first
          | (go_at_call 19; refine (Tryd.strconv_Atoi_ok s (by omega) v h _).mono ?_; rintro e w1 ⟨rfl, hw⟩; have hb : Below w.heap.size w w1 := (by rcases hw with rfl | ⟨t, rfl⟩ <;> first | exact Below.refl _ _ | exact bytes_below _ _ _); clear hw))
        refine bodyPost_ret (results_tmp2 rfl _ _ _) rfl ?_
        refine ⟨?_, hb⟩
        simp [h0, show ¬ (v ≤ most) by omega]
    · go_enter Tryd.func12, Tryd.ntmps12
      go_wp2_with (first
        | (go_at_call 19; refine (Tryd.strconv_Atoi_ok s (by omega) v h _).mono ?_; rintro e w1 ⟨rfl, hw⟩; have hb : Below w.heap.size w w1 := (by rcases hw with rfl | ⟨t, rfl⟩ <;> first | exact Below.refl _ _ | exact bytes_below _ _ _); clear hw))
      refine bodyPost_ret (results_tmp2 rfl _ _ _) rfl ?_
      refine ⟨?_, hb⟩
      simp [show ¬ (0 ≤ v) by omega]
  | «syntax» =>
    obtain ⟨ev, hv, hev⟩ := hI.syn
    go_enter Tryd.func12, Tryd.ntmps12
    go_wp2_with (first
      | (go_at_call 19; refine (Tryd.strconv_Atoi_syntax s hlim h ev _ hv hev).mono ?_; rintro e w1 ⟨N, rfl, _, _, hb⟩))
    refine bodyPost_ret (results_tmp2 rfl _ _ _) rfl ?_
    refine ⟨rfl, hb⟩
  | range =>
    obtain ⟨ev, hv, hev⟩ := hI.rng
    go_enter Tryd.func12, Tryd.ntmps12
    go_wp2_with (first
      | (go_at_call 19; refine (Tryd.strconv_Atoi_range s hlim h ev _ hv hev).mono ?_; rintro e w1 ⟨N, rfl, _, _, hb⟩))
    refine bodyPost_ret (results_tmp2 rfl _ _ _) rfl ?_
    refine ⟨rfl, hb⟩
end Go.Proofs.YtbclogifkifaaaaDoor.Libs
