-- Written by wip/xprint.py of this work: the printer of the kit, with contracts of this work beside it, shortened.
import Derived.Test.YthodilggomedgaaDoorShort
import Derived.Test.YthodilggomedgaaDoorPTbx0
import Derived.Test.YthodilggomedgaaDoorPTbx6
import Derived.Test.YthodilggomedgaaDoorPTbx12
import Derived.Test.YthodilggomedgaaDoorJ3
namespace Go.Proofs.YthodilggomedgaaDoor.PTb
open Go.RowKit Go.Proofs.YthodilggomedgaaDoor.Short Go.Proofs.YthodilggomedgaaDoorW.PrintWords Go.Proofs.YthodilggomedgaaDoorW.PrintLast Go.Proofs.YthodilggomedgaaDoorW.PrintMore
attribute [local go_sem] max2_int min2_int max_two min_two max_three min_three max_four min_four   -- for this text's walks alone
set_option linter.unusedVariables false
set_option linter.unusedSimpArgs false

/-! ### token_piece: function 16 -/
def token_piece.f (k : Nat) (a0 : ByteArray) : Option (Int × ByteArray × Int × Int × Int × Int × Bool) := (token_Name.f k a0).bind fun t122 => (if t122 = true then (some (1, a0, 0, 0, 0, 0, true)) else ((prefix_Parse.f k a0).bind fun bt123 => (if bt123.2.2 = true then (some (3, a0, 0, bt123.1, bt123.2.1, 0, true)) else ((strconv_Atoi.f a0).bind fun bt127 => (if bt127.2.isNone = true then (if bt127.1 < 0 then (some (0, (⟨#[]⟩ : ByteArray), 0, 0, 0, 0, false)) else (if bt127.1 > 999999 then (some (0, (⟨#[]⟩ : ByteArray), 0, 0, 0, 0, false)) else ((strconv_Itoa.f bt127.1).bind fun t130 => (if t130.toList = a0.toList then (some (2, a0, bt127.1, 0, 0, 0, true)) else (some (0, (⟨#[]⟩ : ByteArray), 0, 0, 0, 0, false)))))) else (some (0, (⟨#[]⟩ : ByteArray), 0, 0, 0, 0, false)))))))
theorem token_piece.mono : ∀ a0 k, LeO (token_piece.f k a0) (token_piece.f (k + 1) a0) := by
 intro a0 k
 unfold token_piece.f
 repeat' first
   | (with_reducible exact prefix_Parse.mono _ _)
   | (with_reducible exact token_Name.mono _ _)
   | (with_reducible exact LeO.refl _)
   | (with_reducible exact LeO.none _)
   | (with_reducible refine LeO.ite ?_ ?_)
   | (with_reducible refine LeO.bind ?_ (fun _ => ?_))
   | exact prefix_Parse.mono _ _
   | exact token_Name.mono _ _
   | exact LeO.none _
   | refine LeO.ite ?_ ?_
   | refine LeO.bind ?_ (fun _ => ?_)
set_option maxHeartbeats 8000000 in
set_option maxRecDepth 100000 in
theorem token_piece.calls (k : Nat) (a0 : ByteArray) (r1 : Int) (r2 : ByteArray) (r3 : Int) (r4 : Int) (r5 : Int) (r6 : Int) (r7 : Bool) (w : World) (h : token_piece.f k a0 = some (r1, r2, r3, r4, r5, r6, r7)) (hInv : Go.Proofs.YthodilggomedgaaDoor.Inv.Inv w) :
  Calls Tryd.prog 16 #[.string a0] w fun e w' => e = .returned (.tuple #[.agg #[.int .i64 r1, .string r2, .int .i64 r3, .int .u32 r4, .int .i64 r5, .int .i64 r6], .bool r7]) ∧ Below w.heap.size w w' := by
 have hu33 := Tryd.underlying33
 have hu31 := Tryd.underlying31
 have hu25 := Tryd.underlying25
 have HB := Aside0.mk (Below.refl w.heap.size w)
 have H : ((token_Name.f k a0).bind fun t122 => (if t122 = true then (some (1, a0, 0, 0, 0, 0, true)) else ((prefix_Parse.f k a0).bind fun bt123 => (if bt123.2.2 = true then (some (3, a0, 0, bt123.1, bt123.2.1, 0, true)) else ((strconv_Atoi.f a0).bind fun bt127 => (if bt127.2.isNone = true then (if bt127.1 < 0 then (some (0, (⟨#[]⟩ : ByteArray), 0, 0, 0, 0, false)) else (if bt127.1 > 999999 then (some (0, (⟨#[]⟩ : ByteArray), 0, 0, 0, 0, false)) else ((strconv_Itoa.f bt127.1).bind fun t130 => (if t130.toList = a0.toList then (some (2, a0, bt127.1, 0, 0, 0, true)) else (some (0, (⟨#[]⟩ : ByteArray), 0, 0, 0, 0, false)))))) else (some (0, (⟨#[]⟩ : ByteArray), 0, 0, 0, 0, false)))))))) = some (r1, r2, r3, r4, r5, r6, r7) := h
 clear h
 replace H := Option.bind_eq_some_iff.mp H
 obtain ⟨t122, A20, H⟩ := H
 replace H : (if t122 = true then (some (1, a0, 0, 0, 0, 0, true)) else ((prefix_Parse.f k a0).bind fun bt123 => (if bt123.2.2 = true then (some (3, a0, 0, bt123.1, bt123.2.1, 0, true)) else ((strconv_Atoi.f a0).bind fun bt127 => (if bt127.2.isNone = true then (if bt127.1 < 0 then (some (0, (⟨#[]⟩ : ByteArray), 0, 0, 0, 0, false)) else (if bt127.1 > 999999 then (some (0, (⟨#[]⟩ : ByteArray), 0, 0, 0, 0, false)) else ((strconv_Itoa.f bt127.1).bind fun t130 => (if t130.toList = a0.toList then (some (2, a0, bt127.1, 0, 0, 0, true)) else (some (0, (⟨#[]⟩ : ByteArray), 0, 0, 0, 0, false)))))) else (some (0, (⟨#[]⟩ : ByteArray), 0, 0, 0, 0, false))))))) = some (r1, r2, r3, r4, r5, r6, r7) := H
 have A2 := Aside0.mk A20
 clear A20
 by_cases c3 : t122 = true
 ·subst c3
  have H1 : (some (1, a0, 0, 0, 0, 0, true)) = some (r1, r2, r3, r4, r5, r6, r7) := by rw [if_pos rfl] at H; exact H
  clear H
  have H := H1
  clear H1
  simp only [Option.some.injEq, Prod.mk.injEq] at H
  obtain ⟨rfl, rfl, rfl, rfl, rfl, rfl, rfl⟩ := H
  go_enter Tryd.func16, Tryd.ntmps16
  go_wp2_with (first | ((with_reducible refine gate_dst (N := 2) rfl ?_); refine bx 2 (cs := #[.int .i64 0, .string (⟨#[]⟩ : ByteArray), .int .i64 0, .int .u32 0, .int .i64 0, .int .i64 0]) (t := 33) (h := ?_); intro gb121 hg w4 hbox hb; have BK121 := Aside0.mk hbox; have GW121 : Aside0 (w.heap.size ≤ gb121) := bge hg; have GE121 : Aside0 (w.heap.size ≤ gb121) := bge hg; replace HB := bst hb; clear hb hbox hg) | ((with_reducible refine gate_dst (N := 9) rfl ?_); refine gl (some 9) Tryd.func22 #[.string a0] ?_; (with_reducible refine (token_Name.calls k a0 true _ A2.out).mono ?_); rintro e w' ⟨rfl, ⟨nd, rfl⟩⟩; refine ⟨_, rfl, ?_⟩; (try (rw [drewN_self w4]; generalize hq_ : World.drewN w4 _ = w4; replace BK121 : Aside0 (w4.heap[gb121]? = some (.cells #[.int .i64 0, .string (⟨#[]⟩ : ByteArray), .int .i64 0, .int .u32 0, .int .i64 0, .int .i64 0] 33 (0, 0))) := ⟨by rw [← hq_]; exact (bkq BK121)⟩; replace HB : Aside0 (Below w.heap.size w w4) := ⟨by rw [← hq_]; exact bel⟩; clear hq_)); obtain ⟨hcz5_0, hcz5_1, hcz5_2, hcz5_3, hcz5_4, hcz5_5, hfz5_0, hfz5_1, hfz5_2, hfz5_3, hfz5_4, hfz5_5⟩ := bc6 BK121))
  refine bodyPost_ret (results_ct rfl _ _ gb121 33 #[.int .i64 1, .string a0, .int .i64 0, .int .u32 0, .int .i64 0, .int .i64 0] (0, 0) _ rfl (bkp BK121) Tryd.underlying33 rfl (by kernel_rfl)) rfl ?_
  exact ⟨by first | rfl | (simp [errW_none, errW_some] <;> rfl) | (simp [*, errW_none, errW_some] <;> rfl), by repeat (first | (with_reducible first | exact HB.out | apply below_alloc | apply pw_below_drewN | apply below_drew1 | refine below_set ?_ GE121.out) | exact HB.out)⟩
 ·replace c3 := Bool.eq_false_iff.mpr c3
  subst c3
  have H1 : ((prefix_Parse.f k a0).bind fun bt123 => (if bt123.2.2 = true then (some (3, a0, 0, bt123.1, bt123.2.1, 0, true)) else ((strconv_Atoi.f a0).bind fun bt127 => (if bt127.2.isNone = true then (if bt127.1 < 0 then (some (0, (⟨#[]⟩ : ByteArray), 0, 0, 0, 0, false)) else (if bt127.1 > 999999 then (some (0, (⟨#[]⟩ : ByteArray), 0, 0, 0, 0, false)) else ((strconv_Itoa.f bt127.1).bind fun t130 => (if t130.toList = a0.toList then (some (2, a0, bt127.1, 0, 0, 0, true)) else (some (0, (⟨#[]⟩ : ByteArray), 0, 0, 0, 0, false)))))) else (some (0, (⟨#[]⟩ : ByteArray), 0, 0, 0, 0, false)))))) = some (r1, r2, r3, r4, r5, r6, r7) := by rw [if_neg (show ¬ (false = true) by decide)] at H; exact H
  clear H
  have H := H1
  clear H1
  replace H := Option.bind_eq_some_iff.mp H
  obtain ⟨⟨t123, t124, t125⟩, A60, H⟩ := H
  replace H : (if t125 = true then (some (3, a0, 0, t123, t124, 0, true)) else ((strconv_Atoi.f a0).bind fun bt127 => (if bt127.2.isNone = true then (if bt127.1 < 0 then (some (0, (⟨#[]⟩ : ByteArray), 0, 0, 0, 0, false)) else (if bt127.1 > 999999 then (some (0, (⟨#[]⟩ : ByteArray), 0, 0, 0, 0, false)) else ((strconv_Itoa.f bt127.1).bind fun t130 => (if t130.toList = a0.toList then (some (2, a0, bt127.1, 0, 0, 0, true)) else (some (0, (⟨#[]⟩ : ByteArray), 0, 0, 0, 0, false)))))) else (some (0, (⟨#[]⟩ : ByteArray), 0, 0, 0, 0, false))))) = some (r1, r2, r3, r4, r5, r6, r7) := H
  have A6 := Aside0.mk A60
  clear A60
  by_cases c7 : t125 = true
  ·subst c7
   have H1 : (some (3, a0, 0, t123, t124, 0, true)) = some (r1, r2, r3, r4, r5, r6, r7) := by rw [if_pos rfl] at H; exact H
   clear H
   have H := H1
   clear H1
   simp only [Option.some.injEq, Prod.mk.injEq] at H
   obtain ⟨rfl, rfl, rfl, rfl, rfl, rfl, rfl⟩ := H
   go_enter Tryd.func16, Tryd.ntmps16
   go_wp2_with (first | ((with_reducible refine gate_dst (N := 2) rfl ?_); refine bx 2 (cs := #[.int .i64 0, .string (⟨#[]⟩ : ByteArray), .int .i64 0, .int .u32 0, .int .i64 0, .int .i64 0]) (t := 33) (h := ?_); intro gb121 hg w8 hbox hb; have BK121 := Aside0.mk hbox; have GW121 : Aside0 (w.heap.size ≤ gb121) := bge hg; have GE121 : Aside0 (w.heap.size ≤ gb121) := bge hg; replace HB := bst hb; clear hb hbox hg) | ((with_reducible refine gate_dst (N := 9) rfl ?_); refine gl (some 9) Tryd.func22 #[.string a0] ?_; (with_reducible refine (token_Name.calls k a0 false _ A2.out).mono ?_); rintro e w' ⟨rfl, ⟨nd, rfl⟩⟩; refine ⟨_, rfl, ?_⟩; (try (rw [drewN_self w8]; generalize hq_ : World.drewN w8 _ = w8; replace BK121 : Aside0 (w8.heap[gb121]? = some (.cells #[.int .i64 0, .string (⟨#[]⟩ : ByteArray), .int .i64 0, .int .u32 0, .int .i64 0, .int .i64 0] 33 (0, 0))) := ⟨by rw [← hq_]; exact (bkq BK121)⟩; replace HB : Aside0 (Below w.heap.size w w8) := ⟨by rw [← hq_]; exact bel⟩; clear hq_))) | ((with_reducible refine gate_dst (N := 14) rfl ?_); refine gl (some 14) Tryd.func23 #[.string a0] ?_; (with_reducible refine (prefix_Parse.calls k a0 t123 t124 true _ A6.out (Go.Proofs.YthodilggomedgaaDoor.Inv.ivb hInv)).mono ?_); rintro e w9 ⟨rfl, hb⟩; refine ⟨_, rfl, ?_⟩; replace BK121 := bkb BK121 hb; replace HB := bst hb; (try clear hb); (try clear hb2); (try clear hk); (try clear hi)) | ((with_reducible refine gate_dst (N := 4) rfl ?_); refine bx 4 (cs := #[.int .u32 0, .int .i64 0]) (t := 31) (h := ?_); intro gb126 hg w10 hbox hb; have BK126 := Aside0.mk hbox; have GW126 : Aside0 (w.heap.size ≤ gb126) := bge hg; have GE126 : Aside0 (w.heap.size ≤ gb126) := bge hg; have NB121_126 := bne BK121 hg; have NB126_121 := bnf BK121 hg; replace BK121 := bkb BK121 hb; replace HB := bst hb; clear hb hbox hg; have hnb11 := NB126_121.out; have hnc11 := NB121_126.out; obtain ⟨hcz12_0, hcz12_1, hfz12_0, hfz12_1⟩ := bc2 BK126; obtain ⟨hcz13_0, hcz13_1, hcz13_2, hcz13_3, hcz13_4, hcz13_5, hfz13_0, hfz13_1, hfz13_2, hfz13_3, hfz13_4, hfz13_5⟩ := bc6 BK121))
   refine bodyPost_ret (results_ct rfl _ _ gb121 33 #[.int .i64 3, .string a0, .int .i64 0, .int .u32 t123, .int .i64 t124, .int .i64 0] (0, 0) _ rfl (bkp BK121) Tryd.underlying33 rfl (by kernel_rfl)) rfl ?_
   exact ⟨by first | rfl | (simp [errW_none, errW_some] <;> rfl) | (simp [*, errW_none, errW_some] <;> rfl), by repeat (first | (with_reducible first | exact HB.out | apply below_alloc | apply pw_below_drewN | apply below_drew1 | refine below_set ?_ GE121.out | refine below_set ?_ GE126.out) | exact HB.out)⟩
  ·replace c7 := Bool.eq_false_iff.mpr c7
   subst c7
   have H1 : ((strconv_Atoi.f a0).bind fun bt127 => (if bt127.2.isNone = true then (if bt127.1 < 0 then (some (0, (⟨#[]⟩ : ByteArray), 0, 0, 0, 0, false)) else (if bt127.1 > 999999 then (some (0, (⟨#[]⟩ : ByteArray), 0, 0, 0, 0, false)) else ((strconv_Itoa.f bt127.1).bind fun t130 => (if t130.toList = a0.toList then (some (2, a0, bt127.1, 0, 0, 0, true)) else (some (0, (⟨#[]⟩ : ByteArray), 0, 0, 0, 0, false)))))) else (some (0, (⟨#[]⟩ : ByteArray), 0, 0, 0, 0, false)))) = some (r1, r2, r3, r4, r5, r6, r7) := by rw [if_neg (show ¬ (false = true) by decide)] at H; exact H
   clear H
   have H := H1
   clear H1
   replace H := Option.bind_eq_some_iff.mp H
   obtain ⟨⟨t127, t128⟩, A140, H⟩ := H
   replace H : (if t128.isNone = true then (if t127 < 0 then (some (0, (⟨#[]⟩ : ByteArray), 0, 0, 0, 0, false)) else (if t127 > 999999 then (some (0, (⟨#[]⟩ : ByteArray), 0, 0, 0, 0, false)) else ((strconv_Itoa.f t127).bind fun t130 => (if t130.toList = a0.toList then (some (2, a0, t127, 0, 0, 0, true)) else (some (0, (⟨#[]⟩ : ByteArray), 0, 0, 0, 0, false)))))) else (some (0, (⟨#[]⟩ : ByteArray), 0, 0, 0, 0, false))) = some (r1, r2, r3, r4, r5, r6, r7) := H
   have A14 := Aside0.mk A140
   clear A140
   rcases t128 with _ | q129
   ·have H1 : (if t127 < 0 then (some (0, (⟨#[]⟩ : ByteArray), 0, 0, 0, 0, false)) else (if t127 > 999999 then (some (0, (⟨#[]⟩ : ByteArray), 0, 0, 0, 0, false)) else ((strconv_Itoa.f t127).bind fun t130 => (if t130.toList = a0.toList then (some (2, a0, t127, 0, 0, 0, true)) else (some (0, (⟨#[]⟩ : ByteArray), 0, 0, 0, 0, false)))))) = some (r1, r2, r3, r4, r5, r6, r7) := by rw [if_pos (show (none : Option Int).isNone = true by rfl)] at H; exact H
    clear H
    have H := H1
    clear H1
    try simp only [errW_none, errW_some]
    by_cases c15 : t127 < 0
    ·rw [if_pos c15] at H
     have c15b0 := decide_eq_true c15
     clear c15
     simp only [Option.some.injEq, Prod.mk.injEq] at H
     obtain ⟨rfl, rfl, rfl, rfl, rfl, rfl, rfl⟩ := H
     go_enter Tryd.func16, Tryd.ntmps16
     go_wp2_with (first | ((with_reducible refine gate_dst (N := 2) rfl ?_); refine bx 2 (cs := #[.int .i64 0, .string (⟨#[]⟩ : ByteArray), .int .i64 0, .int .u32 0, .int .i64 0, .int .i64 0]) (t := 33) (h := ?_); intro gb121 hg w16 hbox hb; have BK121 := Aside0.mk hbox; have GW121 : Aside0 (w.heap.size ≤ gb121) := bge hg; have GE121 : Aside0 (w.heap.size ≤ gb121) := bge hg; replace HB := bst hb; clear hb hbox hg) | ((with_reducible refine gate_dst (N := 9) rfl ?_); refine gl (some 9) Tryd.func22 #[.string a0] ?_; (with_reducible refine (token_Name.calls k a0 false _ A2.out).mono ?_); rintro e w' ⟨rfl, ⟨nd, rfl⟩⟩; refine ⟨_, rfl, ?_⟩; (try (rw [drewN_self w16]; generalize hq_ : World.drewN w16 _ = w16; replace BK121 : Aside0 (w16.heap[gb121]? = some (.cells #[.int .i64 0, .string (⟨#[]⟩ : ByteArray), .int .i64 0, .int .u32 0, .int .i64 0, .int .i64 0] 33 (0, 0))) := ⟨by rw [← hq_]; exact (bkq BK121)⟩; replace HB : Aside0 (Below w.heap.size w w16) := ⟨by rw [← hq_]; exact bel⟩; clear hq_))) | ((with_reducible refine gate_dst (N := 14) rfl ?_); refine gl (some 14) Tryd.func23 #[.string a0] ?_; (with_reducible refine (prefix_Parse.calls k a0 t123 t124 false _ A6.out (Go.Proofs.YthodilggomedgaaDoor.Inv.ivb hInv)).mono ?_); rintro e w17 ⟨rfl, hb⟩; refine ⟨_, rfl, ?_⟩; replace BK121 := bkb BK121 hb; replace HB := bst hb; (try clear hb); (try clear hb2); (try clear hk); (try clear hi)) | ((with_reducible refine gate_dst (N := 4) rfl ?_); refine bx 4 (cs := #[.int .u32 0, .int .i64 0]) (t := 31) (h := ?_); intro gb126 hg w18 hbox hb; have BK126 := Aside0.mk hbox; have GW126 : Aside0 (w.heap.size ≤ gb126) := bge hg; have GE126 : Aside0 (w.heap.size ≤ gb126) := bge hg; have NB121_126 := bne BK121 hg; have NB126_121 := bnf BK121 hg; replace BK121 := bkb BK121 hb; replace HB := bst hb; clear hb hbox hg; have hnb19 := NB126_121.out; have hnc19 := NB121_126.out; obtain ⟨hcz20_0, hcz20_1, hfz20_0, hfz20_1⟩ := bc2 BK126) | ((with_reducible refine gate_dst (N := 23) rfl ?_); refine gl (some 23) Tryd.func24 #[.string a0] ?_; (with_reducible refine (strconv_Atoi.calls a0 t127 none _ A14.out (Go.Proofs.YthodilggomedgaaDoor.Inv.ivb hInv)).mono ?_); rintro e w21 ⟨rfl, hb⟩; refine ⟨_, rfl, ?_⟩; replace BK121 := bkb BK121 hb; replace BK126 := Aside0.mk (blk_below (g := gb126) (o := .cells #[.int .u32 t123, .int .i64 t124] 31 (0, 0)) (bkp BK126) hb); replace HB := bst hb; (try clear hb); (try clear hb2); (try clear hk); (try clear hi); (try simp only [errW_none, errW_some]); obtain ⟨hcz22_0, hcz22_1, hcz22_2, hcz22_3, hcz22_4, hcz22_5, hfz22_0, hfz22_1, hfz22_2, hfz22_3, hfz22_4, hfz22_5⟩ := bc6 BK121))
     refine bodyPost_ret (results_ct rfl _ _ gb121 33 #[.int .i64 0, .string (⟨#[]⟩ : ByteArray), .int .i64 0, .int .u32 0, .int .i64 0, .int .i64 0] (0, 0) _ rfl (bkp BK121) Tryd.underlying33 rfl (by kernel_rfl)) rfl ?_
     exact ⟨by first | rfl | (simp [errW_none, errW_some] <;> rfl) | (simp [*, errW_none, errW_some] <;> rfl), by repeat (first | (with_reducible first | exact HB.out | apply below_alloc | apply pw_below_drewN | apply below_drew1 | refine below_set ?_ GE121.out | refine below_set ?_ GE126.out) | exact HB.out)⟩
    ·rw [if_neg c15] at H
     have c15b0 := decide_eq_false c15
     clear c15
     by_cases c23 : t127 > 999999
     ·rw [if_pos c23] at H
      have c23b0 : decide (999999 < t127) = true := decide_eq_true c23
      clear c23
      simp only [Option.some.injEq, Prod.mk.injEq] at H
      obtain ⟨rfl, rfl, rfl, rfl, rfl, rfl, rfl⟩ := H
      go_enter Tryd.func16, Tryd.ntmps16
      go_wp2_with (first | ((with_reducible refine gate_dst (N := 2) rfl ?_); refine bx 2 (cs := #[.int .i64 0, .string (⟨#[]⟩ : ByteArray), .int .i64 0, .int .u32 0, .int .i64 0, .int .i64 0]) (t := 33) (h := ?_); intro gb121 hg w24 hbox hb; have BK121 := Aside0.mk hbox; have GW121 : Aside0 (w.heap.size ≤ gb121) := bge hg; have GE121 : Aside0 (w.heap.size ≤ gb121) := bge hg; replace HB := bst hb; clear hb hbox hg) | ((with_reducible refine gate_dst (N := 9) rfl ?_); refine gl (some 9) Tryd.func22 #[.string a0] ?_; (with_reducible refine (token_Name.calls k a0 false _ A2.out).mono ?_); rintro e w' ⟨rfl, ⟨nd, rfl⟩⟩; refine ⟨_, rfl, ?_⟩; (try (rw [drewN_self w24]; generalize hq_ : World.drewN w24 _ = w24; replace BK121 : Aside0 (w24.heap[gb121]? = some (.cells #[.int .i64 0, .string (⟨#[]⟩ : ByteArray), .int .i64 0, .int .u32 0, .int .i64 0, .int .i64 0] 33 (0, 0))) := ⟨by rw [← hq_]; exact (bkq BK121)⟩; replace HB : Aside0 (Below w.heap.size w w24) := ⟨by rw [← hq_]; exact bel⟩; clear hq_))) | ((with_reducible refine gate_dst (N := 14) rfl ?_); refine gl (some 14) Tryd.func23 #[.string a0] ?_; (with_reducible refine (prefix_Parse.calls k a0 t123 t124 false _ A6.out (Go.Proofs.YthodilggomedgaaDoor.Inv.ivb hInv)).mono ?_); rintro e w25 ⟨rfl, hb⟩; refine ⟨_, rfl, ?_⟩; replace BK121 := bkb BK121 hb; replace HB := bst hb; (try clear hb); (try clear hb2); (try clear hk); (try clear hi)) | ((with_reducible refine gate_dst (N := 4) rfl ?_); refine bx 4 (cs := #[.int .u32 0, .int .i64 0]) (t := 31) (h := ?_); intro gb126 hg w26 hbox hb; have BK126 := Aside0.mk hbox; have GW126 : Aside0 (w.heap.size ≤ gb126) := bge hg; have GE126 : Aside0 (w.heap.size ≤ gb126) := bge hg; have NB121_126 := bne BK121 hg; have NB126_121 := bnf BK121 hg; replace BK121 := bkb BK121 hb; replace HB := bst hb; clear hb hbox hg; have hnb27 := NB126_121.out; have hnc27 := NB121_126.out; obtain ⟨hcz28_0, hcz28_1, hfz28_0, hfz28_1⟩ := bc2 BK126) | ((with_reducible refine gate_dst (N := 23) rfl ?_); refine gl (some 23) Tryd.func24 #[.string a0] ?_; (with_reducible refine (strconv_Atoi.calls a0 t127 none _ A14.out (Go.Proofs.YthodilggomedgaaDoor.Inv.ivb hInv)).mono ?_); rintro e w29 ⟨rfl, hb⟩; refine ⟨_, rfl, ?_⟩; replace BK121 := bkb BK121 hb; replace BK126 := Aside0.mk (blk_below (g := gb126) (o := .cells #[.int .u32 t123, .int .i64 t124] 31 (0, 0)) (bkp BK126) hb); replace HB := bst hb; (try clear hb); (try clear hb2); (try clear hk); (try clear hi); (try simp only [errW_none, errW_some]); obtain ⟨hcz30_0, hcz30_1, hcz30_2, hcz30_3, hcz30_4, hcz30_5, hfz30_0, hfz30_1, hfz30_2, hfz30_3, hfz30_4, hfz30_5⟩ := bc6 BK121))
      refine bodyPost_ret (results_ct rfl _ _ gb121 33 #[.int .i64 0, .string (⟨#[]⟩ : ByteArray), .int .i64 0, .int .u32 0, .int .i64 0, .int .i64 0] (0, 0) _ rfl (bkp BK121) Tryd.underlying33 rfl (by kernel_rfl)) rfl ?_
      exact ⟨by first | rfl | (simp [errW_none, errW_some] <;> rfl) | (simp [*, errW_none, errW_some] <;> rfl), by repeat (first | (with_reducible first | exact HB.out | apply below_alloc | apply pw_below_drewN | apply below_drew1 | refine below_set ?_ GE121.out | refine below_set ?_ GE126.out) | exact HB.out)⟩
     ·rw [if_neg c23] at H
      have c23b0 : decide (999999 < t127) = false := decide_eq_false c23
      clear c23
      replace H := Option.bind_eq_some_iff.mp H
      obtain ⟨t130, A310, H⟩ := H
      replace H : (if t130.toList = a0.toList then (some (2, a0, t127, 0, 0, 0, true)) else (some (0, (⟨#[]⟩ : ByteArray), 0, 0, 0, 0, false))) = some (r1, r2, r3, r4, r5, r6, r7) := H
      have A31 := Aside0.mk A310
      clear A310
      by_cases c32 : t130.toList = a0.toList
      ·rw [if_pos c32] at H
       have c32b0 : (t130.toList == a0.toList) = true := beq_iff_eq.mpr c32
       have c32b1 : (t130.toList != a0.toList) = false := bne_eq_false_iff_eq.mpr c32
       clear c32
       simp only [Option.some.injEq, Prod.mk.injEq] at H
       obtain ⟨rfl, rfl, rfl, rfl, rfl, rfl, rfl⟩ := H
       go_enter Tryd.func16, Tryd.ntmps16
       go_wp2_with (first | ((with_reducible refine gate_dst (N := 2) rfl ?_); refine bx 2 (cs := #[.int .i64 0, .string (⟨#[]⟩ : ByteArray), .int .i64 0, .int .u32 0, .int .i64 0, .int .i64 0]) (t := 33) (h := ?_); intro gb121 hg w33 hbox hb; have BK121 := Aside0.mk hbox; have GW121 : Aside0 (w.heap.size ≤ gb121) := bge hg; have GE121 : Aside0 (w.heap.size ≤ gb121) := bge hg; replace HB := bst hb; clear hb hbox hg) | ((with_reducible refine gate_dst (N := 9) rfl ?_); refine gl (some 9) Tryd.func22 #[.string a0] ?_; (with_reducible refine (token_Name.calls k a0 false _ A2.out).mono ?_); rintro e w' ⟨rfl, ⟨nd, rfl⟩⟩; refine ⟨_, rfl, ?_⟩; (try (rw [drewN_self w33]; generalize hq_ : World.drewN w33 _ = w33; replace BK121 : Aside0 (w33.heap[gb121]? = some (.cells #[.int .i64 0, .string (⟨#[]⟩ : ByteArray), .int .i64 0, .int .u32 0, .int .i64 0, .int .i64 0] 33 (0, 0))) := ⟨by rw [← hq_]; exact (bkq BK121)⟩; replace HB : Aside0 (Below w.heap.size w w33) := ⟨by rw [← hq_]; exact bel⟩; clear hq_))) | ((with_reducible refine gate_dst (N := 14) rfl ?_); refine gl (some 14) Tryd.func23 #[.string a0] ?_; (with_reducible refine (prefix_Parse.calls k a0 t123 t124 false _ A6.out (Go.Proofs.YthodilggomedgaaDoor.Inv.ivb hInv)).mono ?_); rintro e w34 ⟨rfl, hb⟩; refine ⟨_, rfl, ?_⟩; replace BK121 := bkb BK121 hb; replace HB := bst hb; (try clear hb); (try clear hb2); (try clear hk); (try clear hi)) | ((with_reducible refine gate_dst (N := 4) rfl ?_); refine bx 4 (cs := #[.int .u32 0, .int .i64 0]) (t := 31) (h := ?_); intro gb126 hg w35 hbox hb; have BK126 := Aside0.mk hbox; have GW126 : Aside0 (w.heap.size ≤ gb126) := bge hg; have GE126 : Aside0 (w.heap.size ≤ gb126) := bge hg; have NB121_126 := bne BK121 hg; have NB126_121 := bnf BK121 hg; replace BK121 := bkb BK121 hb; replace HB := bst hb; clear hb hbox hg; have hnb36 := NB126_121.out; have hnc36 := NB121_126.out; obtain ⟨hcz37_0, hcz37_1, hfz37_0, hfz37_1⟩ := bc2 BK126) | ((with_reducible refine gate_dst (N := 23) rfl ?_); refine gl (some 23) Tryd.func24 #[.string a0] ?_; (with_reducible refine (strconv_Atoi.calls a0 t127 none _ A14.out (Go.Proofs.YthodilggomedgaaDoor.Inv.ivb hInv)).mono ?_); rintro e w38 ⟨rfl, hb⟩; refine ⟨_, rfl, ?_⟩; replace BK121 := bkb BK121 hb; replace BK126 := Aside0.mk (blk_below (g := gb126) (o := .cells #[.int .u32 t123, .int .i64 t124] 31 (0, 0)) (bkp BK126) hb); replace HB := bst hb; (try clear hb); (try clear hb2); (try clear hk); (try clear hi); (try simp only [errW_none, errW_some])) | (go_at_call 25; (with_reducible refine (strconv_Itoa.calls t127 t130 _ A31.out (Go.Proofs.YthodilggomedgaaDoor.Inv.ivb hInv)).mono ?_); rintro e w39 ⟨rfl, hb⟩; replace BK121 := bkb BK121 hb; replace BK126 := bkb BK126 hb; replace HB := bst hb; (try clear hb); (try clear hb2); (try clear hk); (try clear hi); obtain ⟨hcz40_0, hcz40_1, hcz40_2, hcz40_3, hcz40_4, hcz40_5, hfz40_0, hfz40_1, hfz40_2, hfz40_3, hfz40_4, hfz40_5⟩ := bc6 BK121))
       refine bodyPost_ret (results_ct rfl _ _ gb121 33 #[.int .i64 2, .string a0, .int .i64 t127, .int .u32 0, .int .i64 0, .int .i64 0] (0, 0) _ rfl (bkp BK121) Tryd.underlying33 rfl (by kernel_rfl)) rfl ?_
       exact ⟨by first | rfl | (simp [errW_none, errW_some] <;> rfl) | (simp [*, errW_none, errW_some] <;> rfl), by repeat (first | (with_reducible first | exact HB.out | apply below_alloc | apply pw_below_drewN | apply below_drew1 | refine below_set ?_ GE121.out | refine below_set ?_ GE126.out) | exact HB.out)⟩
      ·rw [if_neg c32] at H
       have c32b0 : (t130.toList == a0.toList) = false := beq_eq_false_iff_ne.mpr c32
       have c32b1 : (t130.toList != a0.toList) = true := bne_iff_ne.mpr c32
       simp only [Option.some.injEq, Prod.mk.injEq] at H
       obtain ⟨rfl, rfl, rfl, rfl, rfl, rfl, rfl⟩ := H
       go_enter Tryd.func16, Tryd.ntmps16
       go_wp2_with (first | ((with_reducible refine gate_dst (N := 2) rfl ?_); refine bx 2 (cs := #[.int .i64 0, .string (⟨#[]⟩ : ByteArray), .int .i64 0, .int .u32 0, .int .i64 0, .int .i64 0]) (t := 33) (h := ?_); intro gb121 hg w41 hbox hb; have BK121 := Aside0.mk hbox; have GW121 : Aside0 (w.heap.size ≤ gb121) := bge hg; have GE121 : Aside0 (w.heap.size ≤ gb121) := bge hg; replace HB := bst hb; clear hb hbox hg) | ((with_reducible refine gate_dst (N := 9) rfl ?_); refine gl (some 9) Tryd.func22 #[.string a0] ?_; (with_reducible refine (token_Name.calls k a0 false _ A2.out).mono ?_); rintro e w' ⟨rfl, ⟨nd, rfl⟩⟩; refine ⟨_, rfl, ?_⟩; (try (rw [drewN_self w41]; generalize hq_ : World.drewN w41 _ = w41; replace BK121 : Aside0 (w41.heap[gb121]? = some (.cells #[.int .i64 0, .string (⟨#[]⟩ : ByteArray), .int .i64 0, .int .u32 0, .int .i64 0, .int .i64 0] 33 (0, 0))) := ⟨by rw [← hq_]; exact (bkq BK121)⟩; replace HB : Aside0 (Below w.heap.size w w41) := ⟨by rw [← hq_]; exact bel⟩; clear hq_))) | ((with_reducible refine gate_dst (N := 14) rfl ?_); refine gl (some 14) Tryd.func23 #[.string a0] ?_; (with_reducible refine (prefix_Parse.calls k a0 t123 t124 false _ A6.out (Go.Proofs.YthodilggomedgaaDoor.Inv.ivb hInv)).mono ?_); rintro e w42 ⟨rfl, hb⟩; refine ⟨_, rfl, ?_⟩; replace BK121 := bkb BK121 hb; replace HB := bst hb; (try clear hb); (try clear hb2); (try clear hk); (try clear hi)) | ((with_reducible refine gate_dst (N := 4) rfl ?_); refine bx 4 (cs := #[.int .u32 0, .int .i64 0]) (t := 31) (h := ?_); intro gb126 hg w43 hbox hb; have BK126 := Aside0.mk hbox; have GW126 : Aside0 (w.heap.size ≤ gb126) := bge hg; have GE126 : Aside0 (w.heap.size ≤ gb126) := bge hg; have NB121_126 := bne BK121 hg; have NB126_121 := bnf BK121 hg; replace BK121 := bkb BK121 hb; replace HB := bst hb; clear hb hbox hg; have hnb44 := NB126_121.out; have hnc44 := NB121_126.out; obtain ⟨hcz45_0, hcz45_1, hfz45_0, hfz45_1⟩ := bc2 BK126) | ((with_reducible refine gate_dst (N := 23) rfl ?_); refine gl (some 23) Tryd.func24 #[.string a0] ?_; (with_reducible refine (strconv_Atoi.calls a0 t127 none _ A14.out (Go.Proofs.YthodilggomedgaaDoor.Inv.ivb hInv)).mono ?_); rintro e w46 ⟨rfl, hb⟩; refine ⟨_, rfl, ?_⟩; replace BK121 := bkb BK121 hb; replace BK126 := Aside0.mk (blk_below (g := gb126) (o := .cells #[.int .u32 t123, .int .i64 t124] 31 (0, 0)) (bkp BK126) hb); replace HB := bst hb; (try clear hb); (try clear hb2); (try clear hk); (try clear hi); (try simp only [errW_none, errW_some])) | (go_at_call 25; (with_reducible refine (strconv_Itoa.calls t127 t130 _ A31.out (Go.Proofs.YthodilggomedgaaDoor.Inv.ivb hInv)).mono ?_); rintro e w47 ⟨rfl, hb⟩; replace BK121 := bkb BK121 hb; replace BK126 := bkb BK126 hb; replace HB := bst hb; (try clear hb); (try clear hb2); (try clear hk); (try clear hi); obtain ⟨hcz48_0, hcz48_1, hcz48_2, hcz48_3, hcz48_4, hcz48_5, hfz48_0, hfz48_1, hfz48_2, hfz48_3, hfz48_4, hfz48_5⟩ := bc6 BK121))
       refine bodyPost_ret (results_ct rfl _ _ gb121 33 #[.int .i64 0, .string (⟨#[]⟩ : ByteArray), .int .i64 0, .int .u32 0, .int .i64 0, .int .i64 0] (0, 0) _ rfl (bkp BK121) Tryd.underlying33 rfl (by kernel_rfl)) rfl ?_
       exact ⟨by first | rfl | (simp [errW_none, errW_some] <;> rfl) | (simp [*, errW_none, errW_some] <;> rfl), by repeat (first | (with_reducible first | exact HB.out | apply below_alloc | apply pw_below_drewN | apply below_drew1 | refine below_set ?_ GE121.out | refine below_set ?_ GE126.out) | exact HB.out)⟩
   ·have H1 : (some (0, (⟨#[]⟩ : ByteArray), 0, 0, 0, 0, false)) = some (r1, r2, r3, r4, r5, r6, r7) := by rw [if_neg (show ¬ (some q129).isNone = true by simp)] at H; exact H
    clear H
    have H := H1
    clear H1
    try simp only [errW_none, errW_some]
    simp only [Option.some.injEq, Prod.mk.injEq] at H
    obtain ⟨rfl, rfl, rfl, rfl, rfl, rfl, rfl⟩ := H
    go_enter Tryd.func16, Tryd.ntmps16
    go_wp2_with (first | ((with_reducible refine gate_dst (N := 2) rfl ?_); refine bx 2 (cs := #[.int .i64 0, .string (⟨#[]⟩ : ByteArray), .int .i64 0, .int .u32 0, .int .i64 0, .int .i64 0]) (t := 33) (h := ?_); intro gb121 hg w49 hbox hb; have BK121 := Aside0.mk hbox; have GW121 : Aside0 (w.heap.size ≤ gb121) := bge hg; have GE121 : Aside0 (w.heap.size ≤ gb121) := bge hg; replace HB := bst hb; clear hb hbox hg) | ((with_reducible refine gate_dst (N := 9) rfl ?_); refine gl (some 9) Tryd.func22 #[.string a0] ?_; (with_reducible refine (token_Name.calls k a0 false _ A2.out).mono ?_); rintro e w' ⟨rfl, ⟨nd, rfl⟩⟩; refine ⟨_, rfl, ?_⟩; (try (rw [drewN_self w49]; generalize hq_ : World.drewN w49 _ = w49; replace BK121 : Aside0 (w49.heap[gb121]? = some (.cells #[.int .i64 0, .string (⟨#[]⟩ : ByteArray), .int .i64 0, .int .u32 0, .int .i64 0, .int .i64 0] 33 (0, 0))) := ⟨by rw [← hq_]; exact (bkq BK121)⟩; replace HB : Aside0 (Below w.heap.size w w49) := ⟨by rw [← hq_]; exact bel⟩; clear hq_))) | ((with_reducible refine gate_dst (N := 14) rfl ?_); refine gl (some 14) Tryd.func23 #[.string a0] ?_; (with_reducible refine (prefix_Parse.calls k a0 t123 t124 false _ A6.out (Go.Proofs.YthodilggomedgaaDoor.Inv.ivb hInv)).mono ?_); rintro e w50 ⟨rfl, hb⟩; refine ⟨_, rfl, ?_⟩; replace BK121 := bkb BK121 hb; replace HB := bst hb; (try clear hb); (try clear hb2); (try clear hk); (try clear hi)) | ((with_reducible refine gate_dst (N := 4) rfl ?_); refine bx 4 (cs := #[.int .u32 0, .int .i64 0]) (t := 31) (h := ?_); intro gb126 hg w51 hbox hb; have BK126 := Aside0.mk hbox; have GW126 : Aside0 (w.heap.size ≤ gb126) := bge hg; have GE126 : Aside0 (w.heap.size ≤ gb126) := bge hg; have NB121_126 := bne BK121 hg; have NB126_121 := bnf BK121 hg; replace BK121 := bkb BK121 hb; replace HB := bst hb; clear hb hbox hg; have hnb52 := NB126_121.out; have hnc52 := NB121_126.out; obtain ⟨hcz53_0, hcz53_1, hfz53_0, hfz53_1⟩ := bc2 BK126) | ((with_reducible refine gate_dst (N := 23) rfl ?_); refine gl (some 23) Tryd.func24 #[.string a0] ?_; (with_reducible refine (strconv_Atoi.errs a0 t127 q129 _ A14.out (Go.Proofs.YthodilggomedgaaDoor.Inv.ivb hInv)).mono ?_); rintro e w54 ⟨te_, pe_, rfl, hb⟩; refine ⟨_, rfl, ?_⟩; replace BK121 := bkb BK121 hb; replace BK126 := Aside0.mk (blk_below (g := gb126) (o := .cells #[.int .u32 t123, .int .i64 t124] 31 (0, 0)) (bkp BK126) hb); replace HB := bst hb; (try clear hb); (try clear hb2); (try clear hk); (try clear hi); (try simp only [errW_none, errW_some]); obtain ⟨hcz55_0, hcz55_1, hcz55_2, hcz55_3, hcz55_4, hcz55_5, hfz55_0, hfz55_1, hfz55_2, hfz55_3, hfz55_4, hfz55_5⟩ := bc6 BK121))
    refine bodyPost_ret (results_ct rfl _ _ gb121 33 #[.int .i64 0, .string (⟨#[]⟩ : ByteArray), .int .i64 0, .int .u32 0, .int .i64 0, .int .i64 0] (0, 0) _ rfl (bkp BK121) Tryd.underlying33 rfl (by kernel_rfl)) rfl ?_
    exact ⟨by first | rfl | (simp [errW_none, errW_some] <;> rfl) | (simp [*, errW_none, errW_some] <;> rfl), by repeat (first | (with_reducible first | exact HB.out | apply below_alloc | apply pw_below_drewN | apply below_drew1 | refine below_set ?_ GE121.out | refine below_set ?_ GE126.out) | exact HB.out)⟩

end Go.Proofs.YthodilggomedgaaDoor.PTb
