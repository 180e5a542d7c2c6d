-- Written by wip/xprint.py of this work: the printer of the kit, with contracts of this work beside it, shortened.
import Derived.Test.YthodilggomedgaaDoorShort
import Derived.Test.YthodilggomedgaaDoorPTbx0
import Derived.Test.YthodilggomedgaaDoorPTbx12
import Derived.Test.YthodilggomedgaaDoorPTbx20
namespace Go.Proofs.YthodilggomedgaaDoor.PTb
open Go.RowKit Go.Proofs.YthodilggomedgaaDoor.Short Go.Proofs.YthodilggomedgaaDoorW.PrintWords Go.Proofs.YthodilggomedgaaDoorW.PrintLast Go.Proofs.YthodilggomedgaaDoorW.PrintMore
attribute [local go_sem] max2_int min2_int max_two min_two max_three min_three max_four min_four   -- for this text's walks alone
set_option linter.unusedVariables false
set_option linter.unusedSimpArgs false

/-! ### maquettelaw06_piece: function 19 -/
def maquettelaw06_piece.l0 : Nat → ByteArray → Int → Int → Option (Int × ByteArray × Int × Int × Int × Int × Bool)
 | 0, _, _, _ => none
 | k + 1, x0, x6, x7 => if x7 < (x0.size : Int) then (if 0 ≤ x7 then (if (bt x0 x7) < 48 then (some (0, (⟨#[]⟩ : ByteArray), 0, 0, 0, 0, false)) else (if (bt x0 x7) > 57 then (some (0, (⟨#[]⟩ : ByteArray), 0, 0, 0, 0, false)) else (if x7 = 6 then (some (0, (⟨#[]⟩ : ByteArray), 0, 0, 0, 0, false)) else (maquettelaw06_piece.l0 k x0 (wrap64 ((wrap64 (x6 * 10)) + (((bt x0 x7) - 48) % 256))) (wrap64 (x7 + 1)))))) else (none)) else (if (x0.size : Int) = 0 then (some (0, (⟨#[]⟩ : ByteArray), 0, 0, 0, 0, false)) else (if (x0.size : Int) > 1 then (if 0 < (x0.size : Int) then (if (bt x0 0) = 48 then (some (0, (⟨#[]⟩ : ByteArray), 0, 0, 0, 0, false)) else (some (2, x0, x6, 0, 0, 0, true))) else (none)) else (some (2, x0, x6, 0, 0, 0, true))))
def maquettelaw06_piece.f (k : Nat) (a0 : ByteArray) : Option (Int × ByteArray × Int × Int × Int × Int × Bool) := (maquettelaw06_name.f k a0).bind fun t189 => (if t189 = true then (some (1, a0, 0, 0, 0, 0, true)) else ((prefix_Parse.f k a0).bind fun bt190 => (if bt190.2.2 = true then (some (3, a0, 0, bt190.1, bt190.2.1, 0, true)) else (maquettelaw06_piece.l0 k a0 0 0))))
theorem maquettelaw06_piece.mono_l : ∀ k, (∀ y0 y1 y2, LeO (maquettelaw06_piece.l0 k y0 y1 y2) (maquettelaw06_piece.l0 (k + 1) y0 y1 y2))
 | 0 => fun _ _ _ r h => by simp [maquettelaw06_piece.l0] at h
 | k + 1 => by
  have ih0 := maquettelaw06_piece.mono_l k
  ·intro y0 y1 y2
   unfold maquettelaw06_piece.l0
   repeat' first
   | (with_reducible exact ih0 _ _ _)
   | (with_reducible exact maquettelaw06_name.mono _ _)
   | (with_reducible exact prefix_Parse.mono _ _)
   | (with_reducible exact LeO.refl _)
   | (with_reducible exact LeO.none _)
   | (with_reducible refine LeO.ite ?_ ?_)
   | (with_reducible refine LeO.bind ?_ (fun _ => ?_))
   | exact ih0 _ _ _
   | exact maquettelaw06_name.mono _ _
   | exact prefix_Parse.mono _ _
   | exact LeO.none _
   | refine LeO.ite ?_ ?_
   | refine LeO.bind ?_ (fun _ => ?_)
theorem maquettelaw06_piece.mono : ∀ a0 k, LeO (maquettelaw06_piece.f k a0) (maquettelaw06_piece.f (k + 1) a0) := by
 intro a0 k
 have ih0 := maquettelaw06_piece.mono_l k
 unfold maquettelaw06_piece.f
 repeat' first
   | (with_reducible exact ih0 _ _ _)
   | (with_reducible exact maquettelaw06_name.mono _ _)
   | (with_reducible exact prefix_Parse.mono _ _)
   | (with_reducible exact LeO.refl _)
   | (with_reducible exact LeO.none _)
   | (with_reducible refine LeO.ite ?_ ?_)
   | (with_reducible refine LeO.bind ?_ (fun _ => ?_))
   | exact ih0 _ _ _
   | exact maquettelaw06_name.mono _ _
   | exact prefix_Parse.mono _ _
   | exact LeO.none _
   | refine LeO.ite ?_ ?_
   | refine LeO.bind ?_ (fun _ => ?_)
set_option maxHeartbeats 8000000 in
set_option maxRecDepth 100000 in
theorem maquettelaw06_piece.calls (k : Nat) (a0 : ByteArray) (r1 : Int) (r2 : ByteArray) (r3 : Int) (r4 : Int) (r5 : Int) (r6 : Int) (r7 : Bool) (w : World) (h : maquettelaw06_piece.f k a0 = some (r1, r2, r3, r4, r5, r6, r7)) (hInv : Go.Proofs.YthodilggomedgaaDoor.Inv.Inv w) :
  Calls Tryd.prog 19 #[.string a0] w fun e w' => e = .returned (.tuple #[.agg #[.int .i64 r1, .string r2, .int .i64 r3, .int .u32 r4, .int .i64 r5, .int .i64 r6], .bool r7]) ∧ Below w.heap.size w w' := by
 have hu33 := Tryd.underlying33
 have hu31 := Tryd.underlying31
 have HB := Aside0.mk (Below.refl w.heap.size w)
 have H : ((maquettelaw06_name.f k a0).bind fun t189 => (if t189 = true then (some (1, a0, 0, 0, 0, 0, true)) else ((prefix_Parse.f k a0).bind fun bt190 => (if bt190.2.2 = true then (some (3, a0, 0, bt190.1, bt190.2.1, 0, true)) else (maquettelaw06_piece.l0 k a0 0 0))))) = some (r1, r2, r3, r4, r5, r6, r7) := h
 clear h
 replace H := Option.bind_eq_some_iff.mp H
 obtain ⟨t189, A20, H⟩ := H
 replace H : (if t189 = true then (some (1, a0, 0, 0, 0, 0, true)) else ((prefix_Parse.f k a0).bind fun bt190 => (if bt190.2.2 = true then (some (3, a0, 0, bt190.1, bt190.2.1, 0, true)) else (maquettelaw06_piece.l0 k a0 0 0)))) = some (r1, r2, r3, r4, r5, r6, r7) := H
 have A2 := Aside0.mk A20
 clear A20
 by_cases c3 : t189 = true
 ·subst c3
  have H1 : (some (1, a0, 0, 0, 0, 0, true)) = some (r1, r2, r3, r4, r5, r6, r7) := by rw [if_pos rfl] at H; exact H
  clear H
  have H := H1
  clear H1
  simp only [Option.some.injEq, Prod.mk.injEq] at H
  obtain ⟨rfl, rfl, rfl, rfl, rfl, rfl, rfl⟩ := H
  go_enter Tryd.func19, Tryd.ntmps19
  go_wp2_with (first | ((with_reducible refine gate_dst (N := 2) rfl ?_); (try (refine gate_guard (by rfl) ?_; dsimp only)); refine bx 2 (cs := #[.int .i64 0, .string (⟨#[]⟩ : ByteArray), .int .i64 0, .int .u32 0, .int .i64 0, .int .i64 0]) (t := 33) (h := ?_); intro gb188 hg w4 hbox hb; have BK188 := Aside0.mk hbox; have GW188 : Aside0 (w.heap.size ≤ gb188) := bge hg; have GE188 : Aside0 (w.heap.size ≤ gb188) := bge hg; replace HB := bst hb; clear hb hbox hg) | ((with_reducible refine gate_dst (N := 9) rfl ?_); refine gl (some 9) Tryd.func30 #[.string a0] ?_; (with_reducible refine (maquettelaw06_name.calls k a0 true _ A2.out).mono ?_); rintro e w' ⟨rfl, ⟨nd, rfl⟩⟩; refine ⟨_, rfl, ?_⟩; (try (rw [drewN_self w4]; generalize hq_ : World.drewN w4 _ = w4; replace BK188 : Aside0 (w4.heap[gb188]? = some (.cells #[.int .i64 0, .string (⟨#[]⟩ : ByteArray), .int .i64 0, .int .u32 0, .int .i64 0, .int .i64 0] 33 (0, 0))) := ⟨by rw [← hq_]; exact (bkq BK188)⟩; replace HB : Aside0 (Below w.heap.size w w4) := ⟨by rw [← hq_]; exact bel⟩; clear hq_)); obtain ⟨hcz5_0, hcz5_1, hcz5_2, hcz5_3, hcz5_4, hcz5_5, hfz5_0, hfz5_1, hfz5_2, hfz5_3, hfz5_4, hfz5_5⟩ := bc6 BK188))
  refine bodyPost_ret (results_ct rfl _ _ gb188 33 #[.int .i64 1, .string a0, .int .i64 0, .int .u32 0, .int .i64 0, .int .i64 0] (0, 0) _ rfl (bkp BK188) Tryd.underlying33 rfl (by kernel_rfl)) rfl ?_
  exact ⟨by first | rfl | (simp [errW_none, errW_some] <;> rfl) | (simp [*, errW_none, errW_some] <;> rfl), by repeat (first | (with_reducible first | exact HB.out | apply below_alloc | apply pw_below_drewN | apply below_drew1 | refine below_set ?_ GE188.out) | exact HB.out)⟩
 ·replace c3 := Bool.eq_false_iff.mpr c3
  subst c3
  have H1 : ((prefix_Parse.f k a0).bind fun bt190 => (if bt190.2.2 = true then (some (3, a0, 0, bt190.1, bt190.2.1, 0, true)) else (maquettelaw06_piece.l0 k a0 0 0))) = some (r1, r2, r3, r4, r5, r6, r7) := by rw [if_neg (show ¬ (false = true) by decide)] at H; exact H
  clear H
  have H := H1
  clear H1
  replace H := Option.bind_eq_some_iff.mp H
  obtain ⟨⟨t190, t191, t192⟩, A60, H⟩ := H
  replace H : (if t192 = true then (some (3, a0, 0, t190, t191, 0, true)) else (maquettelaw06_piece.l0 k a0 0 0)) = some (r1, r2, r3, r4, r5, r6, r7) := H
  have A6 := Aside0.mk A60
  clear A60
  by_cases c7 : t192 = true
  ·subst c7
   have H1 : (some (3, a0, 0, t190, t191, 0, true)) = some (r1, r2, r3, r4, r5, r6, r7) := by rw [if_pos rfl] at H; exact H
   clear H
   have H := H1
   clear H1
   simp only [Option.some.injEq, Prod.mk.injEq] at H
   obtain ⟨rfl, rfl, rfl, rfl, rfl, rfl, rfl⟩ := H
   go_enter Tryd.func19, Tryd.ntmps19
   go_wp2_with (first | ((with_reducible refine gate_dst (N := 2) rfl ?_); (try (refine gate_guard (by rfl) ?_; dsimp only)); refine bx 2 (cs := #[.int .i64 0, .string (⟨#[]⟩ : ByteArray), .int .i64 0, .int .u32 0, .int .i64 0, .int .i64 0]) (t := 33) (h := ?_); intro gb188 hg w8 hbox hb; have BK188 := Aside0.mk hbox; have GW188 : Aside0 (w.heap.size ≤ gb188) := bge hg; have GE188 : Aside0 (w.heap.size ≤ gb188) := bge hg; replace HB := bst hb; clear hb hbox hg) | ((with_reducible refine gate_dst (N := 9) rfl ?_); refine gl (some 9) Tryd.func30 #[.string a0] ?_; (with_reducible refine (maquettelaw06_name.calls k a0 false _ A2.out).mono ?_); rintro e w' ⟨rfl, ⟨nd, rfl⟩⟩; refine ⟨_, rfl, ?_⟩; (try (rw [drewN_self w8]; generalize hq_ : World.drewN w8 _ = w8; replace BK188 : Aside0 (w8.heap[gb188]? = some (.cells #[.int .i64 0, .string (⟨#[]⟩ : ByteArray), .int .i64 0, .int .u32 0, .int .i64 0, .int .i64 0] 33 (0, 0))) := ⟨by rw [← hq_]; exact (bkq BK188)⟩; replace HB : Aside0 (Below w.heap.size w w8) := ⟨by rw [← hq_]; exact bel⟩; clear hq_))) | ((with_reducible refine gate_dst (N := 14) rfl ?_); refine gl (some 14) Tryd.func23 #[.string a0] ?_; (with_reducible refine (prefix_Parse.calls k a0 t190 t191 true _ A6.out (Go.Proofs.YthodilggomedgaaDoor.Inv.ivb hInv)).mono ?_); rintro e w9 ⟨rfl, hb⟩; refine ⟨_, rfl, ?_⟩; replace BK188 := bkb BK188 hb; replace HB := bst hb; (try clear hb); (try clear hb2); (try clear hk); (try clear hi)) | ((with_reducible refine gate_dst (N := 4) rfl ?_); (try (refine gate_guard (by rfl) ?_; dsimp only)); refine bx 4 (cs := #[.int .u32 0, .int .i64 0]) (t := 31) (h := ?_); intro gb193 hg w10 hbox hb; have BK193 := Aside0.mk hbox; have GW193 : Aside0 (w.heap.size ≤ gb193) := bge hg; have GE193 : Aside0 (w.heap.size ≤ gb193) := bge hg; have NB188_193 := bne BK188 hg; have NB193_188 := bnf BK188 hg; replace BK188 := bkb BK188 hb; replace HB := bst hb; clear hb hbox hg; have hnb11 := NB193_188.out; have hnc11 := NB188_193.out; obtain ⟨hcz12_0, hcz12_1, hfz12_0, hfz12_1⟩ := bc2 BK193; obtain ⟨hcz13_0, hcz13_1, hcz13_2, hcz13_3, hcz13_4, hcz13_5, hfz13_0, hfz13_1, hfz13_2, hfz13_3, hfz13_4, hfz13_5⟩ := bc6 BK188))
   refine bodyPost_ret (results_ct rfl _ _ gb188 33 #[.int .i64 3, .string a0, .int .i64 0, .int .u32 t190, .int .i64 t191, .int .i64 0] (0, 0) _ rfl (bkp BK188) Tryd.underlying33 rfl (by kernel_rfl)) rfl ?_
   exact ⟨by first | rfl | (simp [errW_none, errW_some] <;> rfl) | (simp [*, errW_none, errW_some] <;> rfl), by repeat (first | (with_reducible first | exact HB.out | apply below_alloc | apply pw_below_drewN | apply below_drew1 | refine below_set ?_ GE188.out | refine below_set ?_ GE193.out) | exact HB.out)⟩
  ·replace c7 := Bool.eq_false_iff.mpr c7
   subst c7
   have H1 : (maquettelaw06_piece.l0 k a0 0 0) = some (r1, r2, r3, r4, r5, r6, r7) := by rw [if_neg (show ¬ (false = true) by decide)] at H; exact H
   clear H
   have H := H1
   clear H1
   have H' := Aside0.mk H
   clear H
   go_enter Tryd.func19, Tryd.ntmps19
   go_wp2_with (first | ((with_reducible refine gate_dst (N := 2) rfl ?_); (try (refine gate_guard (by rfl) ?_; dsimp only)); refine bx 2 (cs := #[.int .i64 0, .string (⟨#[]⟩ : ByteArray), .int .i64 0, .int .u32 0, .int .i64 0, .int .i64 0]) (t := 33) (h := ?_); intro gb188 hg w14 hbox hb; have BK188 := Aside0.mk hbox; have GW188 : Aside0 (w.heap.size ≤ gb188) := bge hg; have GE188 : Aside0 (w.heap.size ≤ gb188) := bge hg; replace HB := bst hb; clear hb hbox hg) | ((with_reducible refine gate_dst (N := 9) rfl ?_); refine gl (some 9) Tryd.func30 #[.string a0] ?_; (with_reducible refine (maquettelaw06_name.calls k a0 false _ A2.out).mono ?_); rintro e w' ⟨rfl, ⟨nd, rfl⟩⟩; refine ⟨_, rfl, ?_⟩; (try (rw [drewN_self w14]; generalize hq_ : World.drewN w14 _ = w14; replace BK188 : Aside0 (w14.heap[gb188]? = some (.cells #[.int .i64 0, .string (⟨#[]⟩ : ByteArray), .int .i64 0, .int .u32 0, .int .i64 0, .int .i64 0] 33 (0, 0))) := ⟨by rw [← hq_]; exact (bkq BK188)⟩; replace HB : Aside0 (Below w.heap.size w w14) := ⟨by rw [← hq_]; exact bel⟩; clear hq_))) | ((with_reducible refine gate_dst (N := 14) rfl ?_); refine gl (some 14) Tryd.func23 #[.string a0] ?_; (with_reducible refine (prefix_Parse.calls k a0 t190 t191 false _ A6.out (Go.Proofs.YthodilggomedgaaDoor.Inv.ivb hInv)).mono ?_); rintro e w15 ⟨rfl, hb⟩; refine ⟨_, rfl, ?_⟩; replace BK188 := bkb BK188 hb; replace HB := bst hb; (try clear hb); (try clear hb2); (try clear hk); (try clear hi)) | ((with_reducible refine gate_dst (N := 4) rfl ?_); (try (refine gate_guard (by rfl) ?_; dsimp only)); refine bx 4 (cs := #[.int .u32 0, .int .i64 0]) (t := 31) (h := ?_); intro gb193 hg w16 hbox hb; have BK193 := Aside0.mk hbox; have GW193 : Aside0 (w.heap.size ≤ gb193) := bge hg; have GE193 : Aside0 (w.heap.size ≤ gb193) := bge hg; have NB188_193 := bne BK188 hg; have NB193_188 := bnf BK188 hg; replace BK188 := bkb BK188 hb; replace HB := bst hb; clear hb hbox hg; have hnb17 := NB193_188.out; have hnc17 := NB188_193.out; obtain ⟨hcz18_0, hcz18_1, hfz18_0, hfz18_1⟩ := bc2 BK193))
   go_loopg [6, 7] k (fun kq v6 v7 w' => ∃ (x6_1 : Int) (x7_1 : Int) (x189000_1 : Int) (x189001_1 : ByteArray) (x189002_1 : Int) (x189003_1 : Int) (x189004_1 : Int) (x189005_1 : Int), v6 = .int .i64 x6_1 ∧ v7 = .int .i64 x7_1 ∧ Aside0 (maquettelaw06_piece.l0 kq a0 x6_1 x7_1 = some (r1, r2, r3, r4, r5, r6, r7)) ∧ Aside0 (kq ≤ k) ∧ Aside0 (w'.heap[gb188]? = some (.cells #[.int .i64 x189000_1, .string x189001_1, .int .i64 x189002_1, .int .u32 x189003_1, .int .i64 x189004_1, .int .i64 x189005_1] 33 (0, 0))) ∧ Aside0 (w'.heap[gb193]? = some (.cells #[.int .u32 t190, .int .i64 t191] 31 (0, 0))) ∧ Aside0 (Below w.heap.size w w'))
   case atStart => exact ⟨(0), (0), (0), ((⟨#[]⟩ : ByteArray)), (0), (0), (0), (0), (by first | rfl | (simp; done) | (simp [*]; done)), (by first | rfl | (simp; done) | (simp [*]; done)), H', ⟨Nat.le_refl _⟩, ⟨bkq BK188⟩, ⟨bkp BK193⟩, ⟨by repeat (first | (with_reducible first | exact HB.out | apply below_alloc | apply pw_below_drewN | apply below_drew1 | refine below_set ?_ GE188.out | refine below_set ?_ GE193.out) | exact HB.out)⟩⟩
   case round =>
    clear H'
    try clear c1
    try clear c2
    try clear p2
    try clear c3
    try clear c7
    try clear c11
    try clear c17
    try clear hcz12_0 hcz12_1 hfz12_0 hfz12_1
    try clear hcz13_0 hcz13_1 hcz13_2 hcz13_3 hcz13_4 hcz13_5 hfz13_0 hfz13_1 hfz13_2 hfz13_3 hfz13_4 hfz13_5
    try clear hcz18_0 hcz18_1 hfz18_0 hfz18_1
    try clear hcz5_0 hcz5_1 hcz5_2 hcz5_3 hcz5_4 hcz5_5 hfz5_0 hfz5_1 hfz5_2 hfz5_3 hfz5_4 hfz5_5
    obtain ⟨x6_1, x7_1, x189000_1, x189001_1, x189002_1, x189003_1, x189004_1, x189005_1, rfl, rfl, HA, HK1, BK188, BK193, HB⟩ := hrel
    cases gk with
    | zero => exact absurd HA.out (by simp [maquettelaw06_piece.l0])
    | succ k1 =>
     have H := HA.out
     clear HA
     simp only [maquettelaw06_piece.l0] at H
     by_cases c19 : x7_1 < (a0.size : Int)
     ·rw [if_pos c19] at H
      have c19b0 := decide_eq_true c19
      clear c19
      by_cases c20 : 0 ≤ x7_1
      ·rw [if_pos c20] at H
       have c20b0 := decide_eq_true c20
       clear c20
       by_cases c22 : (bt a0 x7_1) < 48
       ·rw [if_pos c22] at H
        have c22b0 := decide_eq_true c22
        clear c22
        simp only [Option.some.injEq, Prod.mk.injEq] at H
        obtain ⟨rfl, rfl, rfl, rfl, rfl, rfl, rfl⟩ := H
        have p21 : 0 ≤ (x7_1 : Int) := of_decide_eq_true (by first | (with_reducible assumption) | assumption)
        have q21 : x7_1 < (a0.size : Int) := of_decide_eq_true (by first | (with_reducible assumption) | assumption)
        have hx21 := bt_at a0 x7_1
        replace p21 := eq_true p21
        replace q21 := eq_true q21
        have hnb23 := NB188_193.out
        have hnc23 := NB193_188.out
        obtain ⟨hcz24_0, hcz24_1, hcz24_2, hcz24_3, hcz24_4, hcz24_5, hfz24_0, hfz24_1, hfz24_2, hfz24_3, hfz24_4, hfz24_5⟩ := bc6 BK188
        go_wp2
        refine bodyPost_ret (results_ct rfl _ _ gb188 33 #[.int .i64 0, .string (⟨#[]⟩ : ByteArray), .int .i64 0, .int .u32 0, .int .i64 0, .int .i64 0] (0, 0) _ rfl (bkp BK188) Tryd.underlying33 rfl (by kernel_rfl)) rfl ?_
        exact ⟨by first | rfl | (simp [errW_none, errW_some] <;> rfl) | (simp [*, errW_none, errW_some] <;> rfl), by repeat (first | (with_reducible first | exact HB.out | apply below_alloc | apply pw_below_drewN | apply below_drew1 | refine below_set ?_ GE188.out | refine below_set ?_ GE193.out) | exact HB.out)⟩
       ·rw [if_neg c22] at H
        have c22b0 := decide_eq_false c22
        clear c22
        by_cases c26 : (bt a0 x7_1) > 57
        ·rw [if_pos c26] at H
         have c26b0 : decide (57 < (bt a0 x7_1)) = true := decide_eq_true c26
         clear c26
         simp only [Option.some.injEq, Prod.mk.injEq] at H
         obtain ⟨rfl, rfl, rfl, rfl, rfl, rfl, rfl⟩ := H
         have p21 : 0 ≤ (x7_1 : Int) := of_decide_eq_true (by first | (with_reducible assumption) | assumption)
         have q21 : x7_1 < (a0.size : Int) := of_decide_eq_true (by first | (with_reducible assumption) | assumption)
         have hx21 := bt_at a0 x7_1
         replace p21 := eq_true p21
         replace q21 := eq_true q21
         have p25 : 0 ≤ (x7_1 : Int) := of_decide_eq_true (by first | (with_reducible assumption) | assumption)
         have q25 : x7_1 < (a0.size : Int) := of_decide_eq_true (by first | (with_reducible assumption) | assumption)
         have hx25 := bt_at a0 x7_1
         replace p25 := eq_true p25
         replace q25 := eq_true q25
         have hnb27 := NB188_193.out
         have hnc27 := NB193_188.out
         obtain ⟨hcz28_0, hcz28_1, hcz28_2, hcz28_3, hcz28_4, hcz28_5, hfz28_0, hfz28_1, hfz28_2, hfz28_3, hfz28_4, hfz28_5⟩ := bc6 BK188
         go_wp2
         refine bodyPost_ret (results_ct rfl _ _ gb188 33 #[.int .i64 0, .string (⟨#[]⟩ : ByteArray), .int .i64 0, .int .u32 0, .int .i64 0, .int .i64 0] (0, 0) _ rfl (bkp BK188) Tryd.underlying33 rfl (by kernel_rfl)) rfl ?_
         exact ⟨by first | rfl | (simp [errW_none, errW_some] <;> rfl) | (simp [*, errW_none, errW_some] <;> rfl), by repeat (first | (with_reducible first | exact HB.out | apply below_alloc | apply pw_below_drewN | apply below_drew1 | refine below_set ?_ GE188.out | refine below_set ?_ GE193.out) | exact HB.out)⟩
        ·rw [if_neg c26] at H
         have c26b0 : decide (57 < (bt a0 x7_1)) = false := decide_eq_false c26
         clear c26
         by_cases c29 : x7_1 = 6
         ·rw [if_pos c29] at H
          have c29b0 : (x7_1 == 6) = true := beq_iff_eq.mpr c29
          have c29b1 : (x7_1 != 6) = false := bne_eq_false_iff_eq.mpr c29
          clear c29
          simp only [Option.some.injEq, Prod.mk.injEq] at H
          obtain ⟨rfl, rfl, rfl, rfl, rfl, rfl, rfl⟩ := H
          have p21 : 0 ≤ (x7_1 : Int) := of_decide_eq_true (by first | (with_reducible assumption) | assumption)
          have q21 : x7_1 < (a0.size : Int) := of_decide_eq_true (by first | (with_reducible assumption) | assumption)
          have hx21 := bt_at a0 x7_1
          replace p21 := eq_true p21
          replace q21 := eq_true q21
          have p25 : 0 ≤ (x7_1 : Int) := of_decide_eq_true (by first | (with_reducible assumption) | assumption)
          have q25 : x7_1 < (a0.size : Int) := of_decide_eq_true (by first | (with_reducible assumption) | assumption)
          have hx25 := bt_at a0 x7_1
          replace p25 := eq_true p25
          replace q25 := eq_true q25
          have hnb30 := NB188_193.out
          have hnc30 := NB193_188.out
          obtain ⟨hcz31_0, hcz31_1, hcz31_2, hcz31_3, hcz31_4, hcz31_5, hfz31_0, hfz31_1, hfz31_2, hfz31_3, hfz31_4, hfz31_5⟩ := bc6 BK188
          go_wp2
          refine bodyPost_ret (results_ct rfl _ _ gb188 33 #[.int .i64 0, .string (⟨#[]⟩ : ByteArray), .int .i64 0, .int .u32 0, .int .i64 0, .int .i64 0] (0, 0) _ rfl (bkp BK188) Tryd.underlying33 rfl (by kernel_rfl)) rfl ?_
          exact ⟨by first | rfl | (simp [errW_none, errW_some] <;> rfl) | (simp [*, errW_none, errW_some] <;> rfl), by repeat (first | (with_reducible first | exact HB.out | apply below_alloc | apply pw_below_drewN | apply below_drew1 | refine below_set ?_ GE188.out | refine below_set ?_ GE193.out) | exact HB.out)⟩
         ·rw [if_neg c29] at H
          have c29b0 : (x7_1 == 6) = false := beq_eq_false_iff_ne.mpr c29
          have c29b1 : (x7_1 != 6) = true := bne_iff_ne.mpr c29
          have H' := Aside0.mk H
          clear H
          have p21 : 0 ≤ (x7_1 : Int) := of_decide_eq_true (by first | (with_reducible assumption) | assumption)
          have q21 : x7_1 < (a0.size : Int) := of_decide_eq_true (by first | (with_reducible assumption) | assumption)
          have hx21 := bt_at a0 x7_1
          replace p21 := eq_true p21
          replace q21 := eq_true q21
          have p25 : 0 ≤ (x7_1 : Int) := of_decide_eq_true (by first | (with_reducible assumption) | assumption)
          have q25 : x7_1 < (a0.size : Int) := of_decide_eq_true (by first | (with_reducible assumption) | assumption)
          have hx25 := bt_at a0 x7_1
          replace p25 := eq_true p25
          replace q25 := eq_true q25
          have p32 : 0 ≤ (x7_1 : Int) := of_decide_eq_true (by first | (with_reducible assumption) | assumption)
          have q32 : x7_1 < (a0.size : Int) := of_decide_eq_true (by first | (with_reducible assumption) | assumption)
          have hx32 := bt_at a0 x7_1
          replace p32 := eq_true p32
          replace q32 := eq_true q32
          go_wp2
          go_roundg k1
          case measure => have := HK1.out; omega
          case rel => exact ⟨(wrap64 ((wrap64 (x6_1 * 10)) + (((bt a0 x7_1) - 48) % 256))), (wrap64 (x7_1 + 1)), (x189000_1), (x189001_1), (x189002_1), (x189003_1), (x189004_1), (x189005_1), (by first | rfl | (simp; done) | (simp [*]; done)), (by first | rfl | (simp; done) | (simp [*]; done)), H', ⟨by have := HK1.out; omega⟩, ⟨bkq BK188⟩, ⟨bkq BK193⟩, ⟨by repeat (first | (with_reducible first | exact HB.out | apply below_alloc | apply pw_below_drewN | apply below_drew1 | refine below_set ?_ GE188.out | refine below_set ?_ GE193.out) | exact HB.out)⟩⟩
      ·rw [if_neg c20] at H
       exact absurd H (by simp)
     ·rw [if_neg c19] at H
      have c19b0 := decide_eq_false c19
      clear c19
      by_cases c33 : (a0.size : Int) = 0
      ·rw [if_pos c33] at H
       have c33b0 : ((a0.size : Int) == 0) = true := beq_iff_eq.mpr c33
       have c33b1 : ((a0.size : Int) != 0) = false := bne_eq_false_iff_eq.mpr c33
       clear c33
       simp only [Option.some.injEq, Prod.mk.injEq] at H
       obtain ⟨rfl, rfl, rfl, rfl, rfl, rfl, rfl⟩ := H
       have hnb34 := NB188_193.out
       have hnc34 := NB193_188.out
       obtain ⟨hcz35_0, hcz35_1, hcz35_2, hcz35_3, hcz35_4, hcz35_5, hfz35_0, hfz35_1, hfz35_2, hfz35_3, hfz35_4, hfz35_5⟩ := bc6 BK188
       go_wp2
       refine bodyPost_ret (results_ct rfl _ _ gb188 33 #[.int .i64 0, .string (⟨#[]⟩ : ByteArray), .int .i64 0, .int .u32 0, .int .i64 0, .int .i64 0] (0, 0) _ rfl (bkp BK188) Tryd.underlying33 rfl (by kernel_rfl)) rfl ?_
       exact ⟨by first | rfl | (simp [errW_none, errW_some] <;> rfl) | (simp [*, errW_none, errW_some] <;> rfl), by repeat (first | (with_reducible first | exact HB.out | apply below_alloc | apply pw_below_drewN | apply below_drew1 | refine below_set ?_ GE188.out | refine below_set ?_ GE193.out) | exact HB.out)⟩
      ·rw [if_neg c33] at H
       have c33b0 : ((a0.size : Int) == 0) = false := beq_eq_false_iff_ne.mpr c33
       have c33b1 : ((a0.size : Int) != 0) = true := bne_iff_ne.mpr c33
       by_cases c36 : (a0.size : Int) > 1
       ·rw [if_pos c36] at H
        have c36b0 : decide (1 < (a0.size : Int)) = true := decide_eq_true c36
        have c36b1 : decide (1 < a0.size) = true := decide_eq_true (by omega)
        clear c36
        by_cases c37 : 0 < (a0.size : Int)
        ·rw [if_pos c37] at H
         have c37b0 := decide_eq_true c37
         have c37b1 : decide (0 < a0.size) = true := decide_eq_true (by omega)
         clear c37
         by_cases c39 : (bt a0 0) = 48
         ·rw [if_pos c39] at H
          have c39b0 : ((bt a0 0) == 48) = true := beq_iff_eq.mpr c39
          have c39b1 : ((bt a0 0) != 48) = false := bne_eq_false_iff_eq.mpr c39
          clear c39
          simp only [Option.some.injEq, Prod.mk.injEq] at H
          obtain ⟨rfl, rfl, rfl, rfl, rfl, rfl, rfl⟩ := H
          have p38 : 0 ≤ (0 : Int) := (by omega)
          have q38 : 0 < a0.size := (by have : (0 : Int) < (a0.size : Int) := of_decide_eq_true (by first | (with_reducible assumption) | assumption); omega)
          have hx38 : ∀ h : 0 < a0.size, ((a0[0]'h).toNat : Int) = bt a0 0 := bt_at a0 0
          clear p38
          have qi38 : (0 < (a0.size : Int)) = True := eq_true (of_decide_eq_true (by first | (with_reducible assumption) | assumption))
          replace q38 := eq_true q38
          have hnb40 := NB188_193.out
          have hnc40 := NB193_188.out
          obtain ⟨hcz41_0, hcz41_1, hcz41_2, hcz41_3, hcz41_4, hcz41_5, hfz41_0, hfz41_1, hfz41_2, hfz41_3, hfz41_4, hfz41_5⟩ := bc6 BK188
          go_wp2
          refine bodyPost_ret (results_ct rfl _ _ gb188 33 #[.int .i64 0, .string (⟨#[]⟩ : ByteArray), .int .i64 0, .int .u32 0, .int .i64 0, .int .i64 0] (0, 0) _ rfl (bkp BK188) Tryd.underlying33 rfl (by kernel_rfl)) rfl ?_
          exact ⟨by first | rfl | (simp [errW_none, errW_some] <;> rfl) | (simp [*, errW_none, errW_some] <;> rfl), by repeat (first | (with_reducible first | exact HB.out | apply below_alloc | apply pw_below_drewN | apply below_drew1 | refine below_set ?_ GE188.out | refine below_set ?_ GE193.out) | exact HB.out)⟩
         ·rw [if_neg c39] at H
          have c39b0 : ((bt a0 0) == 48) = false := beq_eq_false_iff_ne.mpr c39
          have c39b1 : ((bt a0 0) != 48) = true := bne_iff_ne.mpr c39
          simp only [Option.some.injEq, Prod.mk.injEq] at H
          obtain ⟨rfl, rfl, rfl, rfl, rfl, rfl, rfl⟩ := H
          have p38 : 0 ≤ (0 : Int) := (by omega)
          have q38 : 0 < a0.size := (by have : (0 : Int) < (a0.size : Int) := of_decide_eq_true (by first | (with_reducible assumption) | assumption); omega)
          have hx38 : ∀ h : 0 < a0.size, ((a0[0]'h).toNat : Int) = bt a0 0 := bt_at a0 0
          clear p38
          have qi38 : (0 < (a0.size : Int)) = True := eq_true (of_decide_eq_true (by first | (with_reducible assumption) | assumption))
          replace q38 := eq_true q38
          have hnb42 := NB188_193.out
          have hnc42 := NB193_188.out
          obtain ⟨hcz43_0, hcz43_1, hcz43_2, hcz43_3, hcz43_4, hcz43_5, hfz43_0, hfz43_1, hfz43_2, hfz43_3, hfz43_4, hfz43_5⟩ := bc6 BK188
          go_wp2
          refine bodyPost_ret (results_ct rfl _ _ gb188 33 #[.int .i64 2, .string a0, .int .i64 x6_1, .int .u32 0, .int .i64 0, .int .i64 0] (0, 0) _ rfl (bkp BK188) Tryd.underlying33 rfl (by kernel_rfl)) rfl ?_
          exact ⟨by first | rfl | (simp [errW_none, errW_some] <;> rfl) | (simp [*, errW_none, errW_some] <;> rfl), by repeat (first | (with_reducible first | exact HB.out | apply below_alloc | apply pw_below_drewN | apply below_drew1 | refine below_set ?_ GE188.out | refine below_set ?_ GE193.out) | exact HB.out)⟩
        ·rw [if_neg c37] at H
         exact absurd H (by simp)
       ·rw [if_neg c36] at H
        have c36b0 : decide (1 < (a0.size : Int)) = false := decide_eq_false c36
        have c36b1 : decide (1 < a0.size) = false := decide_eq_false (by omega)
        clear c36
        simp only [Option.some.injEq, Prod.mk.injEq] at H
        obtain ⟨rfl, rfl, rfl, rfl, rfl, rfl, rfl⟩ := H
        have hnb44 := NB188_193.out
        have hnc44 := NB193_188.out
        obtain ⟨hcz45_0, hcz45_1, hcz45_2, hcz45_3, hcz45_4, hcz45_5, hfz45_0, hfz45_1, hfz45_2, hfz45_3, hfz45_4, hfz45_5⟩ := bc6 BK188
        go_wp2
        refine bodyPost_ret (results_ct rfl _ _ gb188 33 #[.int .i64 2, .string a0, .int .i64 x6_1, .int .u32 0, .int .i64 0, .int .i64 0] (0, 0) _ rfl (bkp BK188) Tryd.underlying33 rfl (by kernel_rfl)) rfl ?_
        exact ⟨by first | rfl | (simp [errW_none, errW_some] <;> rfl) | (simp [*, errW_none, errW_some] <;> rfl), by repeat (first | (with_reducible first | exact HB.out | apply below_alloc | apply pw_below_drewN | apply below_drew1 | refine below_set ?_ GE188.out | refine below_set ?_ GE193.out) | exact HB.out)⟩

end Go.Proofs.YthodilggomedgaaDoor.PTb
