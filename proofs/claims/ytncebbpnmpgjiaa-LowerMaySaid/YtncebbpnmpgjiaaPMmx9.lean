-- Written by wip/xprint.py of this work: the printer of the kit, with contracts of this work beside it, shortened.
import Derived.Test.YtncebbpnmpgjiaaShort
import Derived.Test.YtncebbpnmpgjiaaPMmx0
namespace Go.Proofs.Ytncebbpnmpgjiaa.PMm
open Go.RowKit Go.Proofs.Ytncebbpnmpgjiaa.Short Go.Proofs.YtncebbpnmpgjiaaW.PrintWords Go.Proofs.YtncebbpnmpgjiaaW.PrintLast Go.Proofs.YtncebbpnmpgjiaaW.PrintMore
attribute [local go_sem] max2_int min2_int max_two min_two max_three min_three max_four min_four   -- for this text's walks alone
set_option linter.unusedVariables false
set_option linter.unusedSimpArgs false

/-! ### maquettelaw07_Shape_mapped: function 12 -/
def maquettelaw07_Shape_mapped.f (a0_0 : Int) (l0_1 : List Int) (l0_2 : List (List (S75))) (l0_3 : List Int) (l0_4 : List Int) (l0_5 : List Int) (a1 : Int) : Option (ByteArray) := if (mn (l0_2.length : Int) 4) = 0 then (some (⟨#[]⟩ : ByteArray)) else (if (Int.tmod a1 3) > 0 then (some (⟨#[]⟩ : ByteArray)) else (if 1 + (Utf8.encode (wrap32 (wrap64 (97 + (Int.tmod (wrap64 (Int.tdiv a1 3)) (mn (l0_2.length : Int) 4)))))).size ≤ 9223372036854775807 then (some ((⟨#[109]⟩ : ByteArray) ++ (Utf8.encode (wrap32 (wrap64 (97 + (Int.tmod (wrap64 (Int.tdiv a1 3)) (mn (l0_2.length : Int) 4)))))))) else (none)))
set_option maxHeartbeats 8000000 in
set_option maxRecDepth 100000 in
theorem maquettelaw07_Shape_mapped.calls (a0_0 : Int) (A0_1 : Option Addr) (c0_1 : Nat) (l0_1 : List Int) (A0_2 : Option Addr) (c0_2 : Nat) (l0_2 : List (List (S75))) (A0_3 : Option Addr) (c0_3 : Nat) (l0_3 : List Int) (A0_4 : Option Addr) (c0_4 : Nat) (l0_4 : List Int) (A0_5 : Option Addr) (c0_5 : Nat) (l0_5 : List Int) (a1 : Int) (r : ByteArray) (w : World) (hr0_1 : Kd.C (Kd.int .u8) w A0_1 l0_1.length l0_1) (hc0_1 : l0_1.length ≤ c0_1) (hr0_2 : Kd.C (Kd.slice 75 k75) w A0_2 l0_2.length l0_2) (hc0_2 : l0_2.length ≤ c0_2) (hr0_3 : Kd.C (Kd.int .u8) w A0_3 l0_3.length l0_3) (hc0_3 : l0_3.length ≤ c0_3) (hr0_4 : Kd.C (Kd.int .u8) w A0_4 l0_4.length l0_4) (hc0_4 : l0_4.length ≤ c0_4) (hr0_5 : Kd.C (Kd.int .u8) w A0_5 l0_5.length l0_5) (hc0_5 : l0_5.length ≤ c0_5) (h : maquettelaw07_Shape_mapped.f a0_0 l0_1 l0_2 l0_3 l0_4 l0_5 a1 = some r) :
  Calls Try.prog 12 #[.agg #[.int .u8 a0_0, .slice A0_1 l0_1.length c0_1, .slice A0_2 l0_2.length c0_2, .slice A0_3 l0_3.length c0_3, .slice A0_4 l0_4.length c0_4, .slice A0_5 l0_5.length c0_5], .int .i64 a1] w fun e w' => e = .returned (.string r) ∧ Below w.heap.size w w' := by
 have hu25 := Try.underlying25
 have HR0_1 := Aside0.mk hr0_1
 have HC0_1 := Aside0.mk hc0_1
 clear hr0_1 hc0_1
 have HR0_2 := Aside0.mk hr0_2
 have HC0_2 := Aside0.mk hc0_2
 clear hr0_2 hc0_2
 have HR0_3 := Aside0.mk hr0_3
 have HC0_3 := Aside0.mk hc0_3
 clear hr0_3 hc0_3
 have HR0_4 := Aside0.mk hr0_4
 have HC0_4 := Aside0.mk hc0_4
 clear hr0_4 hc0_4
 have HR0_5 := Aside0.mk hr0_5
 have HC0_5 := Aside0.mk hc0_5
 clear hr0_5 hc0_5
 have HB := Aside0.mk (Below.refl w.heap.size w)
 have H : (if (mn (l0_2.length : Int) 4) = 0 then (some (⟨#[]⟩ : ByteArray)) else (if (Int.tmod a1 3) > 0 then (some (⟨#[]⟩ : ByteArray)) else (if 1 + (Utf8.encode (wrap32 (wrap64 (97 + (Int.tmod (wrap64 (Int.tdiv a1 3)) (mn (l0_2.length : Int) 4)))))).size ≤ 9223372036854775807 then (some ((⟨#[109]⟩ : ByteArray) ++ (Utf8.encode (wrap32 (wrap64 (97 + (Int.tmod (wrap64 (Int.tdiv a1 3)) (mn (l0_2.length : Int) 4)))))))) else (none)))) = some r := h
 clear h
 obtain ⟨ji3, hji3⟩ : ∃ j_ : Int, (mn (l0_2.length : Int) 4) = j_ := ⟨_, rfl⟩
 replace H : (if (ji3) = 0 then (some (⟨#[]⟩ : ByteArray)) else (if (Int.tmod a1 3) > 0 then (some (⟨#[]⟩ : ByteArray)) else (if 1 + (Utf8.encode (wrap32 (wrap64 (97 + (Int.tmod (wrap64 (Int.tdiv a1 3)) (ji3)))))).size ≤ 9223372036854775807 then (some ((⟨#[109]⟩ : ByteArray) ++ (Utf8.encode (wrap32 (wrap64 (97 + (Int.tmod (wrap64 (Int.tdiv a1 3)) (ji3)))))))) else (none)))) = some r := by first | (rw [hji3] at H; exact H) | (simp only [hji3] at H ⊢; exact H)
 (try (have hji3h : ji3 ≤ 4 := by (rw [← hji3]; unfold mn; (repeat' split) <;> omega)))
 (try (have hji3g : ji3 ≤ 64 := by omega))
 (try (have hji3l : 0 ≤ ji3 := by (rw [← hji3]; unfold mn; (repeat' split) <;> omega)))
 (try (have hji3m : 0 ≤ ji3 := by omega))
 have hji3_ : (if 4 < (l0_2.length : Int) then 4 else (l0_2.length : Int)) = ji3 := hji3
 by_cases c4 : (ji3) = 0
 ·rw [if_pos c4] at H
  have c4b0 : ((ji3) == 0) = true := beq_iff_eq.mpr c4
  have c4b1 : ((ji3) != 0) = false := bne_eq_false_iff_eq.mpr c4
  clear c4
  obtain rfl := Option.some.inj H
  go_enter Try.func12, Try.ntmps12
  go_wp2_with (first | ((with_reducible refine gate_dst (N := 2) rfl ?_); refine bx 2 (cs := #[.int .u8 a0_0, .slice A0_1 l0_1.length c0_1, .slice A0_2 l0_2.length c0_2, .slice A0_3 l0_3.length c0_3, .slice A0_4 l0_4.length c0_4, .slice A0_5 l0_5.length c0_5]) (t := 25) (h := ?_); intro gb160 hg w5 hbox hb; have BK160 := Aside0.mk hbox; have GW160 : Aside0 (w.heap.size ≤ gb160) := bge hg; have GE160 : Aside0 (w.heap.size ≤ gb160) := bge hg; replace HB := bst hb; clear hb hbox hg; obtain ⟨hcz6_0, hcz6_1, hcz6_2, hcz6_3, hcz6_4, hcz6_5, hfz6_0, hfz6_1, hfz6_2, hfz6_3, hfz6_4, hfz6_5⟩ := bc6 BK160))
  go_ret
  exact ⟨by first | rfl | (simp [errW_none, errW_some] <;> rfl) | (simp only [← hji3]; first | rfl | (simp [errW_none, errW_some] <;> rfl)) | (simp [*, errW_none, errW_some] <;> rfl), by repeat (first | (with_reducible first | exact HB.out | apply below_alloc | apply pw_below_drewN | apply below_drew1 | refine below_set ?_ GE160.out) | exact HB.out)⟩
 ·rw [if_neg c4] at H
  have c4b0 : ((ji3) == 0) = false := beq_eq_false_iff_ne.mpr c4
  have c4b1 : ((ji3) != 0) = true := bne_iff_ne.mpr c4
  by_cases c7 : (Int.tmod a1 3) > 0
  ·rw [if_pos c7] at H
   have c7b0 : decide (0 < (Int.tmod a1 3)) = true := decide_eq_true c7
   clear c7
   obtain rfl := Option.some.inj H
   go_enter Try.func12, Try.ntmps12
   go_wp2_with (first | ((with_reducible refine gate_dst (N := 2) rfl ?_); refine bx 2 (cs := #[.int .u8 a0_0, .slice A0_1 l0_1.length c0_1, .slice A0_2 l0_2.length c0_2, .slice A0_3 l0_3.length c0_3, .slice A0_4 l0_4.length c0_4, .slice A0_5 l0_5.length c0_5]) (t := 25) (h := ?_); intro gb160 hg w8 hbox hb; have BK160 := Aside0.mk hbox; have GW160 : Aside0 (w.heap.size ≤ gb160) := bge hg; have GE160 : Aside0 (w.heap.size ≤ gb160) := bge hg; replace HB := bst hb; clear hb hbox hg; obtain ⟨hcz9_0, hcz9_1, hcz9_2, hcz9_3, hcz9_4, hcz9_5, hfz9_0, hfz9_1, hfz9_2, hfz9_3, hfz9_4, hfz9_5⟩ := bc6 BK160))
   go_ret
   exact ⟨by first | rfl | (simp [errW_none, errW_some] <;> rfl) | (simp only [← hji3]; first | rfl | (simp [errW_none, errW_some] <;> rfl)) | (simp [*, errW_none, errW_some] <;> rfl), by repeat (first | (with_reducible first | exact HB.out | apply below_alloc | apply pw_below_drewN | apply below_drew1 | refine below_set ?_ GE160.out) | exact HB.out)⟩
  ·rw [if_neg c7] at H
   have c7b0 : decide (0 < (Int.tmod a1 3)) = false := decide_eq_false c7
   clear c7
   by_cases c10 : 1 + (Utf8.encode (wrap32 (wrap64 (97 + (Int.tmod (wrap64 (Int.tdiv a1 3)) (ji3)))))).size ≤ 9223372036854775807
   ·rw [if_pos c10] at H
    have c10b0 := eq_true c10
    have c10b1 := decide_eq_true c10
    try have c10b2 := eq_false (Nat.not_lt.2 c10)
    obtain rfl := Option.some.inj H
    go_enter Try.func12, Try.ntmps12
    go_wp2_with (first | ((with_reducible refine gate_dst (N := 2) rfl ?_); refine bx 2 (cs := #[.int .u8 a0_0, .slice A0_1 l0_1.length c0_1, .slice A0_2 l0_2.length c0_2, .slice A0_3 l0_3.length c0_3, .slice A0_4 l0_4.length c0_4, .slice A0_5 l0_5.length c0_5]) (t := 25) (h := ?_); intro gb160 hg w11 hbox hb; have BK160 := Aside0.mk hbox; have GW160 : Aside0 (w.heap.size ≤ gb160) := bge hg; have GE160 : Aside0 (w.heap.size ≤ gb160) := bge hg; replace HB := bst hb; clear hb hbox hg; obtain ⟨hcz12_0, hcz12_1, hcz12_2, hcz12_3, hcz12_4, hcz12_5, hfz12_0, hfz12_1, hfz12_2, hfz12_3, hfz12_4, hfz12_5⟩ := bc6 BK160))
    go_ret
    exact ⟨by first | rfl | (simp [errW_none, errW_some] <;> rfl) | (simp only [← hji3]; first | rfl | (simp [errW_none, errW_some] <;> rfl)) | (simp [*, errW_none, errW_some] <;> rfl), by repeat (first | (with_reducible first | exact HB.out | apply below_alloc | apply pw_below_drewN | apply below_drew1 | refine below_set ?_ GE160.out) | exact HB.out)⟩
   ·rw [if_neg c10] at H
    exact absurd H (by simp)

end Go.Proofs.Ytncebbpnmpgjiaa.PMm
