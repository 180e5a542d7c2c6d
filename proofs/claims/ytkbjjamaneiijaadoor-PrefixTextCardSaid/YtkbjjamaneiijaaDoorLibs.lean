/- The library's functions on numbers and texts, and prefix.number, each with the frame that the printer asks. -/
import Derived.Test.YtkbjjamaneiijaaDoorShelf
import Derived.Test.YtkbjjamaneiijaaDoorInv
import Derived.Test.YtkbjjamaneiijaaDoorWMore
import Derived.Lib.AppendIntMem
namespace Go.Proofs.YtkbjjamaneiijaaDoor.Libs
open Go.RowKit Go.Proofs.YtkbjjamaneiijaaDoor.Inv
open Go.Proofs.YtkbjjamaneiijaaDoorW.PrintWords (Kd encs)
set_option linter.unusedVariables false
set_option linter.unusedSimpArgs false
theorem drewN_below (w : World) (n : Nat) : Below w.heap.size w (w.drewN n) := ⟨rfl, rfl, rfl, Nat.le_refl _, fun _ _ => rfl⟩
theorem bytes_below (w : World) (t : ByteArray) (e : TypeId) : Below w.heap.size w (Lib.bytesWorld w e t) :=
  ⟨rfl, rfl, rfl, by simp [Lib.bytesWorld, World.freeze, World.alloc, World.drew, -World.alloc_eq, -World.drew_eq], fun k hk => Lib.bytesWorld_at_old w e t k hk⟩
theorem itoa_calls (n : Int) (h0 : -9223372036854775808 ≤ n) (h1 : n ≤ 9223372036854775807) (w : World) (hI : Inv w) :
    Calls Tryd.prog 35 #[.int .i64 n] w fun e w' => e = .returned (.string ⟨(Lib.itoa n).toArray⟩) ∧ Below w.heap.size w w' :=
  (Tryd.strconv_Itoa n h0 h1 w hI.tab).mono fun e w' ⟨he, k, os, hw⟩ => ⟨he, by rw [hw]; exact Lib.below_grow _ w (Nat.le_refl _) k os⟩
theorem cut_calls (s sep : ByteArray) (hs : s.size < 4294967281) (w : World) (hI : Inv w) :
    Calls Tryd.prog 37 #[.string s, .string sep] w fun e w' => e = .returned (.tuple #[.string ⟨(Lib.cut s.data.toList sep.data.toList).1.toArray⟩, .string ⟨(Lib.cut s.data.toList sep.data.toList).2.1.toArray⟩, .bool (Lib.cut s.data.toList sep.data.toList).2.2]) ∧ Below w.heap.size w w' := by
  obtain ⟨m, hm⟩ := hI.mx
  exact (Tryd.strings_Cut s sep m w hs hm).mono fun e w' ⟨he, n, hw⟩ => ⟨he, by rw [hw]; exact drewN_below w n⟩
theorem split_calls (s sep : ByteArray) (hs : s.size < 4294967281) (h1 : 1 ≤ sep.size) (w : World) (hI : Inv w) :
    Calls Tryd.prog 39 #[.string s, .string sep] w fun e w' => ∃ v0_ : Value, e = .returned v0_ ∧ Kd.R Kd.string 9 w' w.heap.size (fun _ => True) v0_ (Lib.splitB sep 0 (Lib.countB s sep) s) ∧ Below w.heap.size w w' := by
  obtain ⟨m, hm⟩ := hI.mx
  refine (Tryd.strings_Split s sep m w hs hm h1).mono fun e w' ⟨he, hw⟩ => ⟨_, he, ?_, by rw [hw]; exact (Below.refl _ _).alloc (Nat.le_refl _) _⟩
  have hlen := Lib.splitB_all sep h1 0 _ s rfl
  have hc := Lib.countB_le sep h1 s.size s (Nat.le_refl _)
  rw [hw]
  refine Kd.R_of_own ?_ (fun _ _ => trivial)
  rw [hlen]
  have := World.ownsRow_lit (base := w.heap.size) (size := 1) (e := 9) w ((Lib.splitB sep 0 (Lib.countB s sep) s).map Value.string).toArray (Lib.countB s sep + 1) (Nat.le_refl _) (by have e : maxLen = 9223372036854775807 := rfl; omega) (by simp [hlen])
  simpa [encs] using this
theorem join_calls (A : Option Addr) (c : Nat) (xs : List ByteArray) (sep : ByteArray) (w : World) (hr : Kd.C Kd.string w A xs.length xs) (hc : xs.length ≤ c) (hN : xs.length ≤ 140737488355328) (hlen : (Lib.join (xs.map (·.data.toList)) sep.data.toList).length ≤ 140737488355328) :
    Calls Tryd.prog 36 #[.slice A xs.length c, .string sep] w fun e w' => e = .returned (.string ⟨(Lib.join (xs.map (·.data.toList)) sep.data.toList).toArray⟩) ∧ Below w.heap.size w w' := by
  rcases Nat.eq_zero_or_pos xs.length with h | h
  · obtain rfl : xs = [] := List.length_eq_zero_iff.1 h
    refine (Tryd.strings_Join_none A c sep w).mono fun e w' ⟨he, hw⟩ => ⟨he, hw ▸ Below.refl _ _⟩
  · obtain ⟨ad, rfl, hcell⟩ := hr.2.2 h
    have hat : ∀ (j : Nat) x, xs[j]? = some x → w.cell? (ad.add j) = some (.string x) := by
      intro j x hj
      obtain ⟨cs, h1, h2, h3⟩ := hcell j x hj
      have h2' : cs = [.string x] := h2
      subst h2'
      have := h3 0 (.string x) rfl
      simpa [Kd.string, Kd.scalar] using this
    obtain ⟨x, hx⟩ : ∃ x, xs[0]? = some x := ⟨_, List.getElem?_eq_getElem h⟩
    have h0 := hat 0 x hx
    obtain ⟨b, o, sp⟩ := ad
    have hsp : sp = none := by
      cases sp with
      | none => rfl
      | some q =>
        simp only [Addr.add, if_pos rfl] at h0
        unfold World.cell? at h0
        split at h0 <;> simp at h0
    subst hsp
    refine Tryd.strings_Join b o c xs sep w (fun j x hj => ?_) (World.block_lt_of_cell? w _ h0) hN hc hlen
    have := hat j x hj
    unfold Addr.add at this
    split at this
    · rename_i e; subst e; exact this
    · exact this
def numb (s : ByteArray) : Int := match Lib.atoiAll s.data.toList with
  | .ok v => v
  | .«syntax» => 0
  | .range => Lib.atoiSat s.data.toList
def numOk (s : ByteArray) (most : Int) : Bool := match Lib.atoiAll s.data.toList with
  | .ok v => decide (v ≥ 0) && (decide (v ≤ most) && (Lib.itoa v == s.data.toList))
  | _ => false
theorem number_calls (s : ByteArray) (most : Int) (hlim : s.size ≤ 281474976710656) (w : World) (hI : Inv w) :
    Calls Tryd.prog 38 #[.string s, .int .i64 most] w fun e w' => e = .returned (.tuple #[.int .i64 (numb s), .bool (numOk s most)]) ∧ Below w.heap.size w w' := by
  unfold numb numOk
  cases h : Lib.atoiAll s.data.toList with
  | ok v =>
    obtain ⟨b1, b2⟩ := Lib.atoiAll_bounds h
    by_cases h0 : v ≥ 0
    · by_cases h1 : v ≤ most
      · go_enter Tryd.func38, Tryd.ntmps38
        go_wp2_with (first
          | (go_at_call 56; refine (Tryd.strconv_Atoi_ok s (by omega) v h _).mono ?_; rintro e w1 ⟨rfl, hw⟩; have hb : Below w.heap.size w w1 := (by rcases hw with rfl | ⟨t, rfl⟩ <;> first | exact Below.refl _ _ | exact bytes_below _ _ _); clear hw)
          | (go_at_call 35; refine (itoa_calls v (by omega) (by omega) _ (by first | exact hI.below hb | exact (hI.below hb).drew | exact (hI.below hb).drewN _)).mono ?_; rintro e w2 ⟨rfl, hb2⟩))
        refine bodyPost_ret (results_tmp2 rfl _ _ _) rfl ?_
        refine ⟨?_, hb.trans (hb2.mono hb.size)⟩
        simp [h0, h1, ByteArray.toList_eq]
      · go_enter Tryd.func38, Tryd.ntmps38
        go_wp2_with (first
          | (go_at_call 56; refine (Tryd.strconv_Atoi_ok s (by omega) v h _).mono ?_; rintro e w1 ⟨rfl, hw⟩; have hb : Below w.heap.size w w1 := (by rcases hw with rfl | ⟨t, rfl⟩ <;> first | exact Below.refl _ _ | exact bytes_below _ _ _); clear hw))
        refine bodyPost_ret (results_tmp2 rfl _ _ _) rfl ?_
        refine ⟨?_, hb⟩
        simp [h0, show ¬ (v ≤ most) by omega]
    · go_enter Tryd.func38, Tryd.ntmps38
      go_wp2_with (first
        | (go_at_call 56; refine (Tryd.strconv_Atoi_ok s (by omega) v h _).mono ?_; rintro e w1 ⟨rfl, hw⟩; have hb : Below w.heap.size w w1 := (by rcases hw with rfl | ⟨t, rfl⟩ <;> first | exact Below.refl _ _ | exact bytes_below _ _ _); clear hw))
      refine bodyPost_ret (results_tmp2 rfl _ _ _) rfl ?_
      refine ⟨?_, hb⟩
      simp [show ¬ (0 ≤ v) by omega]
  | «syntax» =>
    obtain ⟨ev, hv, hev⟩ := hI.syn
    go_enter Tryd.func38, Tryd.ntmps38
    go_wp2_with (first
      | (go_at_call 56; refine (Tryd.strconv_Atoi_syntax s hlim h ev _ hv hev).mono ?_; rintro e w1 ⟨N, rfl, _, _, hb⟩))
    refine bodyPost_ret (results_tmp2 rfl _ _ _) rfl ?_
    refine ⟨rfl, hb⟩
  | range =>
    obtain ⟨ev, hv, hev⟩ := hI.rng
    go_enter Tryd.func38, Tryd.ntmps38
    go_wp2_with (first
      | (go_at_call 56; refine (Tryd.strconv_Atoi_range s hlim h ev _ hv hev).mono ?_; rintro e w1 ⟨N, rfl, _, _, hb⟩))
    refine bodyPost_ret (results_tmp2 rfl _ _ _) rfl ?_
    refine ⟨rfl, hb⟩
end Go.Proofs.YtkbjjamaneiijaaDoor.Libs
