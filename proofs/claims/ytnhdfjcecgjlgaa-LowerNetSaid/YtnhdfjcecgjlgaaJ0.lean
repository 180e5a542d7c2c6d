/- Texts of this work, joined: PNtx9, PNtx10, PNtx11. -/
import Derived.Test.YtnhdfjcecgjlgaaShort
import Derived.Test.YtnhdfjcecgjlgaaSh2
import Derived.Test.YtnhdfjcecgjlgaaPNtx0
section
namespace Go.Proofs.Ytnhdfjcecgjlgaa.PNt
open Go.RowKit Go.Proofs.Ytnhdfjcecgjlgaa.Short Go.Proofs.YtnhdfjcecgjlgaaW.PrintWords Go.Proofs.YtnhdfjcecgjlgaaW.PrintLast Go.Proofs.YtnhdfjcecgjlgaaW.PrintMore
attribute [local go_sem] max2_int min2_int max_two min_two max_three min_three max_four min_four
set_option linter.unusedVariables false
set_option linter.unusedSimpArgs false
def maquettelaw07_Name.f (a0 : Int) : Option (ByteArray) := if 1 + (Utf8.encode (wrap32 (wrap64 (97 + a0)))).size ≤ 9223372036854775807 then (some ((⟨#[114]⟩ : ByteArray) ++ (Utf8.encode (wrap32 (wrap64 (97 + a0)))))) else (none)
set_option maxHeartbeats 8000000 in
set_option maxRecDepth 100000 in
theorem maquettelaw07_Name.calls (a0 : Int) (r : ByteArray) (w : World) (h : maquettelaw07_Name.f a0 = some r) :
  Calls Try.prog 12 #[.int .i64 a0] w fun e w' => e = .returned (.string r) ∧ Drawn0 w w' := by
 unfold maquettelaw07_Name.f at h; have H := h; clear h; by_cases c2 : 1 + (Utf8.encode (wrap32 (wrap64 (97 + a0)))).size ≤ 9223372036854775807
 ·rw [if_pos c2] at H
  have c2b0 := eq_true c2; have c2b1 := decide_eq_true c2; (try have c2b2 := eq_false (Nat.not_lt.2 c2)); obtain rfl := Option.some.inj H; go_enter Try.func12, Try.ntmps12; go_wp2; go_ret; exact ⟨by first | rfl | (simp; done) | (simp [*]; done), by repeat (first | exact Drawn0.refl _ | apply Drawn0.step)⟩
 ·rw [if_neg c2] at H
  exact absurd H (by simp)
def maquettelaw07_number.f (l0 : List Int) (a1 : Int) : Option (Int) := if (l0.length : Int) = 0 then (some 0) else (if 0 ≤ (Int.tmod a1 (l0.length : Int)) then (if (Int.tmod a1 (l0.length : Int)) < (l0.length : Int) then (some (wrap64 (rd l0 (Int.tmod a1 (l0.length : Int))))) else (none)) else (none))
set_option maxHeartbeats 8000000 in
set_option maxRecDepth 100000 in
theorem maquettelaw07_number.calls (A0 : Option Addr) (c0 : Nat) (l0 : List Int) (a1 : Int) (r : Int) (w : World) (hr0 : Kd.C (Kd.int .u8) w A0 l0.length l0) (hc0 : l0.length ≤ c0) (h : maquettelaw07_number.f l0 a1 = some r) :
  Calls Try.prog 13 #[.slice A0 l0.length c0, .int .i64 a1] w fun e w' => e = .returned (.int .i64 r) ∧ Drawn0 w w' := by
 have HR0 := A_ hr0; have HC0 := A_ hc0; clear hr0 hc0; unfold maquettelaw07_number.f at h; have H := h; clear h; by_cases c3 : (l0.length : Int) = 0
 ·rw [if_pos c3] at H
  have c3b0 : ((l0.length : Int) == 0) = true := beq_iff_eq.mpr c3; have c3b1 : ((l0.length : Int) != 0) = false := bne_eq_false_iff_eq.mpr c3; clear c3; obtain rfl := Option.some.inj H; go_enter Try.func13, Try.ntmps13; go_wp2; go_ret; exact ⟨by first | rfl | (simp; done) | (simp [*]; done), by repeat (first | exact Drawn0.refl _ | apply Drawn0.step)⟩
 ·rw [if_neg c3] at H
  have c3b0 : ((l0.length : Int) == 0) = false := beq_eq_false_iff_ne.mpr c3; have c3b1 : ((l0.length : Int) != 0) = true := bne_iff_ne.mpr c3; (have c3b2 : ¬ (l0 = []) := fun h_ => c3 (by rw [h_]; rfl)); obtain ⟨ji4, hji4⟩ : ∃ j_ : Int, (Int.tmod a1 (l0.length : Int)) = j_ := ⟨_, rfl⟩; (replace H : (if 0 ≤ (ji4) then (if (ji4) < (l0.length : Int) then (some (wrap64 (rd l0 (ji4)))) else (none)) else (none)) = some r := by first | (rw [hji4] at H; exact H) | (simp only [hji4] at H ⊢; exact H)); by_cases c5 : 0 ≤ (ji4)
  ·rw [if_pos c5] at H
   have c5b0 := decide_eq_true c5; clear c5; by_cases c6 : (ji4) < (l0.length : Int)
   ·rw [if_pos c6] at H
    have c6b0 := decide_eq_true c6; clear c6; obtain rfl := Option.some.inj H; have p159 : 0 ≤ ((ji4) : Int) := odt; have q159 : (ji4) < (l0.length : Int) := odt; obtain ⟨ad159, e159, hx159_0⟩ := Kd.at_int HR0.out (ji4) p159 q159; cases e159; replace p159 := eq_true p159; replace q159 := eq_true q159; go_enter Try.func13, Try.ntmps13; go_wp2; go_ret; exact ⟨by first | rfl | (simp; done) | (simp only [← hji4] <;> (first | rfl | simp)) | (simp [*]; done), by repeat (first | exact Drawn0.refl _ | apply Drawn0.step)⟩
   ·rw [if_neg c6] at H
    exact absurd H (by simp)
  ·rw [if_neg c5] at H
   exact absurd H (by simp)
def maquettelaw07_Shape_mapped.f (a0_0 : Int) (l0_1 : List Int) (l0_2 : List (List (S79))) (l0_3 : List Int) (l0_4 : List Int) (l0_5 : List Int) (a1 : Int) : Option (ByteArray) := if (mn (l0_2.length : Int) 4) = 0 then (some (⟨#[]⟩ : ByteArray)) else (if (Int.tmod a1 3) > 0 then (some (⟨#[]⟩ : ByteArray)) else (if 1 + (Utf8.encode (wrap32 (wrap64 (97 + (Int.tmod (wrap64 (Int.tdiv a1 3)) (mn (l0_2.length : Int) 4)))))).size ≤ 9223372036854775807 then (some ((⟨#[109]⟩ : ByteArray) ++ (Utf8.encode (wrap32 (wrap64 (97 + (Int.tmod (wrap64 (Int.tdiv a1 3)) (mn (l0_2.length : Int) 4)))))))) else (none)))
set_option maxHeartbeats 8000000 in
set_option maxRecDepth 100000 in
theorem maquettelaw07_Shape_mapped.calls (a0_0 : Int) (A0_1 : Option Addr) (c0_1 : Nat) (l0_1 : List Int) (A0_2 : Option Addr) (c0_2 : Nat) (l0_2 : List (List (S79))) (A0_3 : Option Addr) (c0_3 : Nat) (l0_3 : List Int) (A0_4 : Option Addr) (c0_4 : Nat) (l0_4 : List Int) (A0_5 : Option Addr) (c0_5 : Nat) (l0_5 : List Int) (a1 : Int) (r : ByteArray) (w : World) (hr0_1 : Kd.C (Kd.int .u8) w A0_1 l0_1.length l0_1) (hc0_1 : l0_1.length ≤ c0_1) (hr0_2 : Kd.C (Kd.slice 79 k79) w A0_2 l0_2.length l0_2) (hc0_2 : l0_2.length ≤ c0_2) (hr0_3 : Kd.C (Kd.int .u8) w A0_3 l0_3.length l0_3) (hc0_3 : l0_3.length ≤ c0_3) (hr0_4 : Kd.C (Kd.int .u8) w A0_4 l0_4.length l0_4) (hc0_4 : l0_4.length ≤ c0_4) (hr0_5 : Kd.C (Kd.int .u8) w A0_5 l0_5.length l0_5) (hc0_5 : l0_5.length ≤ c0_5) (h : maquettelaw07_Shape_mapped.f a0_0 l0_1 l0_2 l0_3 l0_4 l0_5 a1 = some r) :
  Calls Try.prog 14 #[.agg #[.int .u8 a0_0, .slice A0_1 l0_1.length c0_1, .slice A0_2 l0_2.length c0_2, .slice A0_3 l0_3.length c0_3, .slice A0_4 l0_4.length c0_4, .slice A0_5 l0_5.length c0_5], .int .i64 a1] w fun e w' => e = .returned (.string r) ∧ Below w.heap.size w w' := by
 have hu25 := Try.underlying25; have HR0_1 := A_ hr0_1; have HC0_1 := A_ hc0_1; clear hr0_1 hc0_1; have HR0_2 := A_ hr0_2; have HC0_2 := A_ hc0_2; clear hr0_2 hc0_2; have HR0_3 := A_ hr0_3; have HC0_3 := A_ hc0_3; clear hr0_3 hc0_3; have HR0_4 := A_ hr0_4; have HC0_4 := A_ hc0_4; clear hr0_4 hc0_4; have HR0_5 := A_ hr0_5; have HC0_5 := A_ hc0_5; clear hr0_5 hc0_5; have HB := A_ (Below.refl w.heap.size w); unfold maquettelaw07_Shape_mapped.f at h; have H := h; clear h; obtain ⟨ji3, hji3⟩ : ∃ j_ : Int, (mn (l0_2.length : Int) 4) = j_ := ⟨_, rfl⟩; (replace H : (if (ji3) = 0 then (some (⟨#[]⟩ : ByteArray)) else (if (Int.tmod a1 3) > 0 then (some (⟨#[]⟩ : ByteArray)) else (if 1 + (Utf8.encode (wrap32 (wrap64 (97 + (Int.tmod (wrap64 (Int.tdiv a1 3)) (ji3)))))).size ≤ 9223372036854775807 then (some ((⟨#[109]⟩ : ByteArray) ++ (Utf8.encode (wrap32 (wrap64 (97 + (Int.tmod (wrap64 (Int.tdiv a1 3)) (ji3)))))))) else (none)))) = some r := by first | (rw [hji3] at H; exact H) | (simp only [hji3] at H ⊢; exact H)); (try (have hji3h : ji3 ≤ 4 := by (rw [← hji3]; unfold mn; (repeat' split) <;> omega))); (try (have hji3g : ji3 ≤ 64 := by omega)); (try (have hji3l : 0 ≤ ji3 := by (rw [← hji3]; unfold mn; (repeat' split) <;> omega))); (try (have hji3m : 0 ≤ ji3 := by omega)); have hji3_ : (if 4 < (l0_2.length : Int) then 4 else (l0_2.length : Int)) = ji3 := hji3; by_cases c4 : (ji3) = 0
 ·rw [if_pos c4] at H
  have c4b0 : ((ji3) == 0) = true := beq_iff_eq.mpr c4; have c4b1 : ((ji3) != 0) = false := bne_eq_false_iff_eq.mpr c4; clear c4; obtain rfl := Option.some.inj H; go_enter Try.func14, Try.ntmps14; go_wp2_with (first | ((with_reducible refine gate_dst (N := 2) rfl ?_); refine bx 2 (cs := #[.int .u8 a0_0, .slice A0_1 l0_1.length c0_1, .slice A0_2 l0_2.length c0_2, .slice A0_3 l0_3.length c0_3, .slice A0_4 l0_4.length c0_4, .slice A0_5 l0_5.length c0_5]) (t := 25) (h := ?_); intro gb160 hg w5 hbox hb; have BK160 := A_ hbox; have GW160 : Aside0 (w.heap.size ≤ gb160) := bge hg; replace HB := bst hb; clear hb hbox hg; have hcz6 := bc6 BK160)); go_ret; exact ⟨by first | rfl | (simp [errW_none, errW_some] <;> rfl) | (simp only [← hji3]; first | rfl | (simp [errW_none, errW_some] <;> rfl)) | (simp [*, errW_none, errW_some] <;> rfl), bel⟩
 ·rw [if_neg c4] at H
  have c4b0 : ((ji3) == 0) = false := beq_eq_false_iff_ne.mpr c4; have c4b1 : ((ji3) != 0) = true := bne_iff_ne.mpr c4; by_cases c7 : (Int.tmod a1 3) > 0
  ·rw [if_pos c7] at H
   have c7b0 : decide (0 < (Int.tmod a1 3)) = true := decide_eq_true c7; clear c7; obtain rfl := Option.some.inj H; go_enter Try.func14, Try.ntmps14; go_wp2_with (first | ((with_reducible refine gate_dst (N := 2) rfl ?_); refine bx 2 (cs := #[.int .u8 a0_0, .slice A0_1 l0_1.length c0_1, .slice A0_2 l0_2.length c0_2, .slice A0_3 l0_3.length c0_3, .slice A0_4 l0_4.length c0_4, .slice A0_5 l0_5.length c0_5]) (t := 25) (h := ?_); intro gb160 hg w8 hbox hb; have BK160 := A_ hbox; have GW160 : Aside0 (w.heap.size ≤ gb160) := bge hg; replace HB := bst hb; clear hb hbox hg; have hcz9 := bc6 BK160)); go_ret; exact ⟨by first | rfl | (simp [errW_none, errW_some] <;> rfl) | (simp only [← hji3]; first | rfl | (simp [errW_none, errW_some] <;> rfl)) | (simp [*, errW_none, errW_some] <;> rfl), bel⟩
  ·rw [if_neg c7] at H
   have c7b0 : decide (0 < (Int.tmod a1 3)) = false := decide_eq_false c7; clear c7; by_cases c10 : 1 + (Utf8.encode (wrap32 (wrap64 (97 + (Int.tmod (wrap64 (Int.tdiv a1 3)) (ji3)))))).size ≤ 9223372036854775807
   ·rw [if_pos c10] at H
    have c10b0 := eq_true c10; have c10b1 := decide_eq_true c10; (try have c10b2 := eq_false (Nat.not_lt.2 c10)); obtain rfl := Option.some.inj H; go_enter Try.func14, Try.ntmps14; go_wp2_with (first | ((with_reducible refine gate_dst (N := 2) rfl ?_); refine bx 2 (cs := #[.int .u8 a0_0, .slice A0_1 l0_1.length c0_1, .slice A0_2 l0_2.length c0_2, .slice A0_3 l0_3.length c0_3, .slice A0_4 l0_4.length c0_4, .slice A0_5 l0_5.length c0_5]) (t := 25) (h := ?_); intro gb160 hg w11 hbox hb; have BK160 := A_ hbox; have GW160 : Aside0 (w.heap.size ≤ gb160) := bge hg; replace HB := bst hb; clear hb hbox hg; have hcz12 := bc6 BK160)); go_ret; exact ⟨by first | rfl | (simp [errW_none, errW_some] <;> rfl) | (simp only [← hji3]; first | rfl | (simp [errW_none, errW_some] <;> rfl)) | (simp [*, errW_none, errW_some] <;> rfl), bel⟩
   ·rw [if_neg c10] at H
    exact absurd H (by simp)
end Go.Proofs.Ytnhdfjcecgjlgaa.PNt
end
