-- Written by wip/xprint.py of this work: the printer of the kit, with contracts of this work beside it, shortened.
import Derived.Test.YthodilggomedgaaDoorShort
import Derived.Test.YthodilggomedgaaDoorPTbx0
import Derived.Test.YthodilggomedgaaDoorJ2
import Derived.Test.YthodilggomedgaaDoorPTbx11
namespace Go.Proofs.YthodilggomedgaaDoor.PTb
open Go.RowKit Go.Proofs.YthodilggomedgaaDoor.Short Go.Proofs.YthodilggomedgaaDoorW.PrintWords Go.Proofs.YthodilggomedgaaDoorW.PrintLast Go.Proofs.YthodilggomedgaaDoorW.PrintMore
attribute [local go_sem] max2_int min2_int max_two min_two max_three min_three max_four min_four   -- for this text's walks alone
set_option linter.unusedVariables false
set_option linter.unusedSimpArgs false

/-! ### prefix_Parse: function 23 -/
mutual
def prefix_Parse.j0 : Nat → Int → List ByteArray → Bool → Option (Int × Int × Bool)
 | 0, _, _, _ => none
 | k + 1, x7, x9, x38 => if x38 = true then (some (0, 0, false)) else (prefix_Parse.l0 k x9 (x9.length : Int) 0 0 x7)
def prefix_Parse.l0 : Nat → List ByteArray → Int → Int → Int → Int → Option (Int × Int × Bool)
 | 0, _, _, _, _, _ => none
 | k + 1, x42, x43, x44, x117000, x117001 => if x44 < x43 then (if 0 ≤ x44 then (if x44 < (x42.length : Int) then ((prefix_number.f (rdOf ByteArray.empty x42 x44) 255).bind fun bt118 => (if bt118.2 = true then (prefix_Parse.l0 k x42 x43 (wrap64 (x44 + 1)) (Go.bits .or .u32 ((x117000 * 256) % 4294967296) ((bt118.1) % 4294967296)) x117001) else (some (0, 0, false)))) else (none)) else (none)) else ((prefix_May.f x117000 x117001).bind fun t120 => (if t120 = true then (some (x117000, x117001, true)) else (some (0, 0, false))))
end
def prefix_Parse.f (k : Nat) (a0 : ByteArray) : Option (Int × Int × Bool) := (strings_Cut.f a0 (⟨#[47]⟩ : ByteArray)).bind fun bt108 => ((prefix_number.f bt108.2.1 32).bind fun bt111 => ((strings_Split.f bt108.1 (⟨#[46]⟩ : ByteArray)).bind fun t113 => (if bt108.2.2 = true then (if bt111.2 = true then (prefix_Parse.j0 k bt111.1 t113 ((t113.length : Int) != 4)) else (prefix_Parse.j0 k bt111.1 t113 true)) else (prefix_Parse.j0 k bt111.1 t113 true))))
theorem prefix_Parse.mono_l : ∀ k, (∀ y0 y1 y2, LeO (prefix_Parse.j0 k y0 y1 y2) (prefix_Parse.j0 (k + 1) y0 y1 y2)) ∧ (∀ y0 y1 y2 y3 y4, LeO (prefix_Parse.l0 k y0 y1 y2 y3 y4) (prefix_Parse.l0 (k + 1) y0 y1 y2 y3 y4))
 | 0 => ⟨fun _ _ _ r h => by simp [prefix_Parse.j0] at h, fun _ _ _ _ _ r h => by simp [prefix_Parse.l0] at h⟩
 | k + 1 => by
  obtain ⟨ih0, ih1⟩ := prefix_Parse.mono_l k
  refine ⟨?_, ?_⟩<;> intros <;> (first | unfold prefix_Parse.j0 | unfold prefix_Parse.l0) <;> repeat' first
   | (with_reducible exact ih0 _ _ _)
   | (with_reducible exact ih1 _ _ _ _ _)
   | (with_reducible exact LeO.refl _)
   | (with_reducible exact LeO.none _)
   | (with_reducible refine LeO.ite ?_ ?_)
   | (with_reducible refine LeO.bind ?_ (fun _ => ?_))
   | exact ih0 _ _ _
   | exact ih1 _ _ _ _ _
   | exact LeO.none _
   | refine LeO.ite ?_ ?_
   | refine LeO.bind ?_ (fun _ => ?_)
theorem prefix_Parse.mono : ∀ a0 k, LeO (prefix_Parse.f k a0) (prefix_Parse.f (k + 1) a0) := by
 intro a0 k
 obtain ⟨ih0, ih1⟩ := prefix_Parse.mono_l k
 unfold prefix_Parse.f
 repeat' first
   | (with_reducible exact ih0 _ _ _)
   | (with_reducible exact ih1 _ _ _ _ _)
   | (with_reducible exact LeO.refl _)
   | (with_reducible exact LeO.none _)
   | (with_reducible refine LeO.ite ?_ ?_)
   | (with_reducible refine LeO.bind ?_ (fun _ => ?_))
   | exact ih0 _ _ _
   | exact ih1 _ _ _ _ _
   | exact LeO.none _
   | refine LeO.ite ?_ ?_
   | refine LeO.bind ?_ (fun _ => ?_)
set_option maxHeartbeats 8000000 in
set_option maxRecDepth 100000 in
theorem prefix_Parse.calls (k : Nat) (a0 : ByteArray) (r1 : Int) (r2 : Int) (r3 : Bool) (w : World) (h : prefix_Parse.f k a0 = some (r1, r2, r3)) (hInv : Go.Proofs.YthodilggomedgaaDoor.Inv.Inv w) :
  Calls Tryd.prog 23 #[.string a0] w fun e w' => e = .returned (.tuple #[.agg #[.int .u32 r1, .int .i64 r2], .bool r3]) ∧ Below w.heap.size w w' := by
 have hu31 := Tryd.underlying31
 have HB := Aside0.mk (Below.refl w.heap.size w)
 have H : ((strings_Cut.f a0 (⟨#[47]⟩ : ByteArray)).bind fun bt108 => ((prefix_number.f bt108.2.1 32).bind fun bt111 => ((strings_Split.f bt108.1 (⟨#[46]⟩ : ByteArray)).bind fun t113 => (if bt108.2.2 = true then (if bt111.2 = true then (prefix_Parse.j0 k bt111.1 t113 ((t113.length : Int) != 4)) else (prefix_Parse.j0 k bt111.1 t113 true)) else (prefix_Parse.j0 k bt111.1 t113 true))))) = some (r1, r2, r3) := h
 clear h
 replace H := Option.bind_eq_some_iff.mp H
 obtain ⟨⟨t108, t109, t110⟩, A20, H⟩ := H
 replace H : ((prefix_number.f t109 32).bind fun bt111 => ((strings_Split.f t108 (⟨#[46]⟩ : ByteArray)).bind fun t113 => (if t110 = true then (if bt111.2 = true then (prefix_Parse.j0 k bt111.1 t113 ((t113.length : Int) != 4)) else (prefix_Parse.j0 k bt111.1 t113 true)) else (prefix_Parse.j0 k bt111.1 t113 true)))) = some (r1, r2, r3) := H
 have A2 := Aside0.mk A20
 clear A20
 replace H := Option.bind_eq_some_iff.mp H
 obtain ⟨⟨t111, t112⟩, A30, H⟩ := H
 replace H : ((strings_Split.f t108 (⟨#[46]⟩ : ByteArray)).bind fun t113 => (if t110 = true then (if t112 = true then (prefix_Parse.j0 k t111 t113 ((t113.length : Int) != 4)) else (prefix_Parse.j0 k t111 t113 true)) else (prefix_Parse.j0 k t111 t113 true))) = some (r1, r2, r3) := H
 have A3 := Aside0.mk A30
 clear A30
 replace H := Option.bind_eq_some_iff.mp H
 obtain ⟨t113, A40, H⟩ := H
 replace H : (if t110 = true then (if t112 = true then (prefix_Parse.j0 k t111 t113 ((t113.length : Int) != 4)) else (prefix_Parse.j0 k t111 t113 true)) else (prefix_Parse.j0 k t111 t113 true)) = some (r1, r2, r3) := H
 have A4 := Aside0.mk A40
 clear A40
 have HC5 := Aside0.mk H
 clear H
 go_enter Tryd.func23, Tryd.ntmps23
 go_upto_region 4 with (first | ((with_reducible refine gate_dst (N := 2) rfl ?_); (try (refine gate_guard (by rfl) ?_; dsimp only)); refine bx 2 (cs := #[.int .u32 0, .int .i64 0]) (t := 31) (h := ?_); intro gb107 hg w6 hbox hb; have BK107 := Aside0.mk hbox; have GW107 : Aside0 (w.heap.size ≤ gb107) := bge hg; have GE107 : Aside0 (w.heap.size ≤ gb107) := bge hg; replace HB := bst hb; clear hb hbox hg) | ((with_reducible refine gate_dst (N := 17) rfl ?_); refine gl (some 17) Tryd.func31 #[.string a0, .string (⟨#[47]⟩ : ByteArray)] ?_; (with_reducible refine (strings_Cut.calls a0 (⟨#[47]⟩ : ByteArray) t108 t109 t110 _ A2.out (Go.Proofs.YthodilggomedgaaDoor.Inv.ivb hInv)).mono ?_); rintro e w7 ⟨rfl, hb⟩; refine ⟨_, rfl, ?_⟩; replace BK107 := bkb BK107 hb; replace HB := bst hb; (try clear hb); (try clear hb2); (try clear hk); (try clear hi)) | ((with_reducible refine gate_dst (N := 23) rfl ?_); refine gl (some 23) Tryd.func32 #[.string t109, .int .i64 32] ?_; (with_reducible refine (prefix_number.calls t109 32 t111 t112 _ A3.out (Go.Proofs.YthodilggomedgaaDoor.Inv.ivb hInv)).mono ?_); rintro e w8 ⟨rfl, hb⟩; refine ⟨_, rfl, ?_⟩; replace BK107 := bkb BK107 hb; replace HB := bst hb; (try clear hb); (try clear hb2); (try clear hk); (try clear hi)) | ((with_reducible refine gate_dst (N := 27) rfl ?_); refine gl (some 27) Tryd.func33 #[.string t108, .string (⟨#[46]⟩ : ByteArray)] ?_; (with_reducible refine (strings_Split.calls t108 (⟨#[46]⟩ : ByteArray) t113 _ A4.out (Go.Proofs.YthodilggomedgaaDoor.Inv.ivb hInv)).mono ?_); rintro e w9 ⟨v114, rfl, ho0, hb⟩; refine ⟨_, rfl, ?_⟩; have HO115 := Aside0.mk (Kd.R_lower ho0 (below_size bel)); replace BK107 := bkb BK107 hb; replace HB := bst hb; (try clear hb); (try clear hb2); (try clear hk); (try clear hi); (try clear ho0)))
 (try simp only [Act.put, List.setIfInBounds_toArray, List.set_cons_zero, List.set_cons_succ])
 go_cut [38] (fun v38 wc => ∃ (kq : Nat) (x38_4 : Bool), v38 = .bool x38_4 ∧ Aside0 (prefix_Parse.j0 kq t111 t113 x38_4 = some (r1, r2, r3)) ∧ Aside0 (kq ≤ k) ∧ Aside0 (Kd.R Kd.string 9 wc w.heap.size (fun _ => True) v114 t113) ∧ Aside0 (wc.heap[gb107]? = some (.cells #[.int .u32 0, .int .i64 0] 31 (0, 0))) ∧ Aside0 (Below w.heap.size w wc))
 case first =>
  have H := HC5.out
  clear HC5
  by_cases c10 : t110 = true
  ·subst c10
   have H1 : (if t112 = true then (prefix_Parse.j0 k t111 t113 ((t113.length : Int) != 4)) else (prefix_Parse.j0 k t111 t113 true)) = some (r1, r2, r3) := by rw [if_pos rfl] at H; exact H
   clear H
   have H := H1
   clear H1
   by_cases c11 : t112 = true
   ·subst c11
    have H1 : (prefix_Parse.j0 k t111 t113 ((t113.length : Int) != 4)) = some (r1, r2, r3) := by rw [if_pos rfl] at H; exact H
    clear H
    have H := H1
    clear H1
    have H' := Aside0.mk H
    clear H
    obtain ⟨Ao12, co12, eo12⟩ := Kd.R_slice HO115.out
    subst eo12
    go_wp2
    go_meet
    case rel => exact ⟨_, (((t113.length : Int) != 4)), (by first | rfl | (simp; done) | (simp [*]; done)), H', ⟨by first | omega | exact Nat.le_refl _⟩, ⟨by (with_reducible repeat (first | apply Kd.R_alloc | apply Kd.R_drewN | apply Kd.R_drew)); exact HO115.out⟩, ⟨bkq BK107⟩, ⟨by repeat (first | (with_reducible first | exact HB.out | apply below_alloc | apply pw_below_drewN | apply below_drew1 | refine below_set ?_ GE107.out) | exact HB.out)⟩⟩
   ·replace c11 := Bool.eq_false_iff.mpr c11
    subst c11
    have H1 : (prefix_Parse.j0 k t111 t113 true) = some (r1, r2, r3) := by rw [if_neg (show ¬ (false = true) by decide)] at H; exact H
    clear H
    have H := H1
    clear H1
    have H' := Aside0.mk H
    clear H
    go_wp2
    go_meet
    case rel => exact ⟨_, (true), (by first | rfl | (simp; done) | (simp [*]; done)), H', ⟨by first | omega | exact Nat.le_refl _⟩, ⟨by (with_reducible repeat (first | apply Kd.R_alloc | apply Kd.R_drewN | apply Kd.R_drew)); exact HO115.out⟩, ⟨bkq BK107⟩, ⟨by repeat (first | (with_reducible first | exact HB.out | apply below_alloc | apply pw_below_drewN | apply below_drew1 | refine below_set ?_ GE107.out) | exact HB.out)⟩⟩
  ·replace c10 := Bool.eq_false_iff.mpr c10
   subst c10
   have H1 : (prefix_Parse.j0 k t111 t113 true) = some (r1, r2, r3) := by rw [if_neg (show ¬ (false = true) by decide)] at H; exact H
   clear H
   have H := H1
   clear H1
   have H' := Aside0.mk H
   clear H
   go_wp2
   go_meet
   case rel => exact ⟨_, (true), (by first | rfl | (simp; done) | (simp [*]; done)), H', ⟨by first | omega | exact Nat.le_refl _⟩, ⟨by (with_reducible repeat (first | apply Kd.R_alloc | apply Kd.R_drewN | apply Kd.R_drew)); exact HO115.out⟩, ⟨bkq BK107⟩, ⟨by repeat (first | (with_reducible first | exact HB.out | apply below_alloc | apply pw_below_drewN | apply below_drew1 | refine below_set ?_ GE107.out) | exact HB.out)⟩⟩
 case rest =>
  clear HC5
  try clear c1
  try clear c2
  try clear p2
  try clear c3
  try clear c10
  try clear c11
  obtain ⟨kq, x38_4, rfl, HA, HJ4, HO_9, BK107, HB⟩ := hcut
  cases kq with
  | zero => exact absurd HA.out (by simp [prefix_Parse.j0])
  | succ kj4 =>
   have H := HA.out
   clear HA
   simp only [prefix_Parse.j0] at H
   by_cases c13 : x38_4 = true
   ·subst c13
    have H1 : (some (0, 0, false)) = some (r1, r2, r3) := by rw [if_pos rfl] at H; exact H
    clear H
    have H := H1
    clear H1
    simp only [Option.some.injEq, Prod.mk.injEq] at H
    obtain ⟨rfl, rfl, rfl⟩ := H
    obtain ⟨hcz14_0, hcz14_1, hfz14_0, hfz14_1⟩ := bc2 BK107
    go_wp2
    refine bodyPost_ret (results_ct rfl _ _ gb107 31 #[.int .u32 0, .int .i64 0] (0, 0) _ rfl (bkp BK107) Tryd.underlying31 rfl (by kernel_rfl)) rfl ?_
    exact ⟨by first | rfl | (simp [errW_none, errW_some] <;> rfl) | (simp [*, errW_none, errW_some] <;> rfl), by repeat (first | (with_reducible first | exact HB.out | apply below_alloc | apply pw_below_drewN | apply below_drew1 | refine below_set ?_ GE107.out) | exact HB.out)⟩
   ·replace c13 := Bool.eq_false_iff.mpr c13
    subst c13
    have H1 : (prefix_Parse.l0 kj4 t113 (t113.length : Int) 0 0 t111) = some (r1, r2, r3) := by rw [if_neg (show ¬ (false = true) by decide)] at H; exact H
    clear H
    have H := H1
    clear H1
    have H' := Aside0.mk H
    clear H
    go_wp2_with (first | ((with_reducible refine gate_dst (N := 10) rfl ?_); (try (refine gate_guard (by rfl) ?_; dsimp only)); refine bx 10 (cs := #[.int .u32 0, .int .i64 0]) (t := 31) (h := ?_); intro gb116 hg w15 hbox hb; have BK116 := Aside0.mk hbox; have GW116 : Aside0 (w.heap.size ≤ gb116) := bge hg; have GE116 : Aside0 (w.heap.size ≤ gb116) := bge hg; have NB107_116 := bne BK107 hg; have NB116_107 := bnf BK107 hg; replace HO_9 := Aside0.mk (Kd.R_below (kR HO_9) hb); replace BK107 := bkb BK107 hb; replace HB := bst hb; clear hb hbox hg; have hnb16 := NB116_107.out; have hnc16 := NB107_116.out; obtain ⟨hcz17_0, hcz17_1, hfz17_0, hfz17_1⟩ := bc2 BK116; obtain ⟨Ao18, co18, eo18⟩ := Kd.R_slice HO_9.out; subst eo18))
    go_loopg [44] kj4 (fun kq v44 w' => ∃ (x44_2 : Int) (x108000_2 : Int) (x108001_2 : Int) (x117000_2 : Int), v44 = .int .i64 x44_2 ∧ Aside0 (prefix_Parse.l0 kq t113 (t113.length : Int) x44_2 x117000_2 t111 = some (r1, r2, r3)) ∧ Aside0 (kq ≤ kj4) ∧ Aside0 (Kd.R Kd.string 9 w' w.heap.size (fun _ => True) (.slice Ao18 t113.length co18) t113) ∧ Aside0 (w'.heap[gb107]? = some (.cells #[.int .u32 x108000_2, .int .i64 x108001_2] 31 (0, 0))) ∧ Aside0 (w'.heap[gb116]? = some (.cells #[.int .u32 x117000_2, .int .i64 t111] 31 (0, 0))) ∧ Aside0 (Below w.heap.size w w'))
    case atStart => exact ⟨(0), (0), (0), (0), (by first | rfl | (simp; done) | (simp [*]; done)), H', ⟨Nat.le_refl _⟩, ⟨by (with_reducible repeat (first | apply Kd.R_alloc | apply Kd.R_drewN | apply Kd.R_drew)); exact Kd.R_mono (Kd.R_far (p := ⟨gb116, 1, none⟩) (Kd.R_far (p := ⟨gb116, 0, none⟩) (Kd.R_types HO_9.out BK116.out (by decide)) (fun _ hk => hk.2) (.int .u32 0)) (fun _ hk => hk.2) (.int .i64 t111)) (fun _ hk => trivial)⟩, ⟨bkq BK107⟩, ⟨bkp BK116⟩, ⟨by repeat (first | (with_reducible first | exact HB.out | apply below_alloc | apply pw_below_drewN | apply below_drew1 | refine below_set ?_ GE107.out | refine below_set ?_ GE116.out) | exact HB.out)⟩⟩
    case round =>
     clear H'
     try clear c1
     try clear c2
     try clear p2 p2
     try clear c3
     try clear c10
     try clear c11
     try clear c13
     try clear c16
     try clear hcz14_0 hcz14_1 hfz14_0 hfz14_1
     try clear hcz17_0 hcz17_1 hfz17_0 hfz17_1
     obtain ⟨x44_2, x108000_2, x108001_2, x117000_2, rfl, HA, HK2, HO_42, BK107, BK116, HB⟩ := hrel
     cases gk with
     | zero => exact absurd HA.out (by simp [prefix_Parse.l0])
     | succ k2 =>
      have H := HA.out
      clear HA
      simp only [prefix_Parse.l0] at H
      by_cases c19 : x44_2 < (t113.length : Int)
      ·rw [if_pos c19] at H
       have c19b0 := decide_eq_true c19
       clear c19
       by_cases c20 : 0 ≤ x44_2
       ·rw [if_pos c20] at H
        have c20b0 := decide_eq_true c20
        clear c20
        by_cases c21 : x44_2 < (t113.length : Int)
        ·rw [if_pos c21] at H
         have c21b0 := decide_eq_true c21
         clear c21
         replace H := Option.bind_eq_some_iff.mp H
         obtain ⟨⟨t118, t119⟩, A220, H⟩ := H
         replace H : (if t119 = true then (prefix_Parse.l0 k2 t113 (t113.length : Int) (wrap64 (x44_2 + 1)) (Go.bits .or .u32 ((x117000_2 * 256) % 4294967296) ((t118) % 4294967296)) t111) else (some (0, 0, false))) = some (r1, r2, r3) := H
         have A22 := Aside0.mk A220
         clear A220
         by_cases c23 : t119 = true
         ·subst c23
          have H1 : (prefix_Parse.l0 k2 t113 (t113.length : Int) (wrap64 (x44_2 + 1)) (Go.bits .or .u32 ((x117000_2 * 256) % 4294967296) ((t118) % 4294967296)) t111) = some (r1, r2, r3) := by rw [if_pos rfl] at H; exact H
          clear H
          have H := H1
          clear H1
          have H' := Aside0.mk H
          clear H
          have p117 : 0 ≤ (x44_2 : Int) := of_decide_eq_true (by first | (with_reducible assumption) | assumption)
          have q117 : x44_2 < (t113.length : Int) := of_decide_eq_true (by first | (with_reducible assumption) | assumption)
          obtain ⟨ad117, e117, hx117_0⟩ := Kd.at_string (Kd.R_reads' HO_42.out).2.2 x44_2 p117 q117
          cases e117
          replace p117 := eq_true p117
          replace q117 := eq_true q117
          go_wp2_with (first | ((with_reducible refine gate_dst (N := 50) rfl ?_); refine gl (some 50) Tryd.func32 #[.string (rdOf ByteArray.empty t113 x44_2), .int .i64 255] ?_; (with_reducible refine (prefix_number.calls (rdOf ByteArray.empty t113 x44_2) 255 t118 true _ A22.out (Go.Proofs.YthodilggomedgaaDoor.Inv.ivb hInv)).mono ?_); rintro e w24 ⟨rfl, hb⟩; refine ⟨_, rfl, ?_⟩; replace HO_42 := Aside0.mk (Kd.R_below (kR HO_42) hb); replace BK107 := bkb BK107 hb; replace BK116 := bkb BK116 hb; replace HB := bst hb; (try clear hb); (try clear hb2); (try clear hk); (try clear hi); have hnb25 := NB116_107.out; have hnc25 := NB107_116.out; obtain ⟨hcz26_0, hcz26_1, hfz26_0, hfz26_1⟩ := bc2 BK116))
          go_roundg k2
          case measure => have := HJ4.out; have := HK2.out; omega
          case rel => exact ⟨(wrap64 (x44_2 + 1)), (x108000_2), (x108001_2), (Go.bits .or .u32 ((x117000_2 * 256) % 4294967296) ((t118) % 4294967296)), (by first | rfl | (simp; done) | (simp [*]; done)), H', ⟨by have := HJ4.out; have := HK2.out; omega⟩, ⟨by (with_reducible repeat (first | apply Kd.R_alloc | apply Kd.R_drewN | apply Kd.R_drew)); exact Kd.R_mono (Kd.R_far (p := ⟨gb116, 0, none⟩) (Kd.R_types HO_42.out BK116.out (by decide)) (fun _ hk => hk.2) (.int .u32 (Go.bits .or .u32 ((x117000_2 * 256) % 4294967296) ((t118) % 4294967296)))) (fun _ hk => trivial)⟩, ⟨bkq BK107⟩, ⟨bkp BK116⟩, ⟨by repeat (first | (with_reducible first | exact HB.out | apply below_alloc | apply pw_below_drewN | apply below_drew1 | refine below_set ?_ GE107.out | refine below_set ?_ GE116.out) | exact HB.out)⟩⟩
         ·replace c23 := Bool.eq_false_iff.mpr c23
          subst c23
          have H1 : (some (0, 0, false)) = some (r1, r2, r3) := by rw [if_neg (show ¬ (false = true) by decide)] at H; exact H
          clear H
          have H := H1
          clear H1
          simp only [Option.some.injEq, Prod.mk.injEq] at H
          obtain ⟨rfl, rfl, rfl⟩ := H
          have p117 : 0 ≤ (x44_2 : Int) := of_decide_eq_true (by first | (with_reducible assumption) | assumption)
          have q117 : x44_2 < (t113.length : Int) := of_decide_eq_true (by first | (with_reducible assumption) | assumption)
          obtain ⟨ad117, e117, hx117_0⟩ := Kd.at_string (Kd.R_reads' HO_42.out).2.2 x44_2 p117 q117
          cases e117
          replace p117 := eq_true p117
          replace q117 := eq_true q117
          go_wp2_with (first | ((with_reducible refine gate_dst (N := 50) rfl ?_); refine gl (some 50) Tryd.func32 #[.string (rdOf ByteArray.empty t113 x44_2), .int .i64 255] ?_; (with_reducible refine (prefix_number.calls (rdOf ByteArray.empty t113 x44_2) 255 t118 false _ A22.out (Go.Proofs.YthodilggomedgaaDoor.Inv.ivb hInv)).mono ?_); rintro e w27 ⟨rfl, hb⟩; refine ⟨_, rfl, ?_⟩; replace HO_42 := Aside0.mk (Kd.R_below (kR HO_42) hb); replace BK107 := bkb BK107 hb; replace BK116 := bkb BK116 hb; replace HB := bst hb; (try clear hb); (try clear hb2); (try clear hk); (try clear hi); have hnb28 := NB107_116.out; have hnc28 := NB116_107.out; obtain ⟨hcz29_0, hcz29_1, hfz29_0, hfz29_1⟩ := bc2 BK107))
          refine bodyPost_ret (results_ct rfl _ _ gb107 31 #[.int .u32 0, .int .i64 0] (0, 0) _ rfl (bkp BK107) Tryd.underlying31 rfl (by kernel_rfl)) rfl ?_
          exact ⟨by first | rfl | (simp [errW_none, errW_some] <;> rfl) | (simp [*, errW_none, errW_some] <;> rfl), by repeat (first | (with_reducible first | exact HB.out | apply below_alloc | apply pw_below_drewN | apply below_drew1 | refine below_set ?_ GE107.out | refine below_set ?_ GE116.out) | exact HB.out)⟩
        ·rw [if_neg c21] at H
         exact absurd H (by simp)
       ·rw [if_neg c20] at H
        exact absurd H (by simp)
      ·rw [if_neg c19] at H
       have c19b0 := decide_eq_false c19
       clear c19
       replace H := Option.bind_eq_some_iff.mp H
       obtain ⟨t120, A300, H⟩ := H
       replace H : (if t120 = true then (some (x117000_2, t111, true)) else (some (0, 0, false))) = some (r1, r2, r3) := H
       have A30 := Aside0.mk A300
       clear A300
       by_cases c31 : t120 = true
       ·subst c31
        have H1 : (some (x117000_2, t111, true)) = some (r1, r2, r3) := by rw [if_pos rfl] at H; exact H
        clear H
        have H := H1
        clear H1
        simp only [Option.some.injEq, Prod.mk.injEq] at H
        obtain ⟨rfl, rfl, rfl⟩ := H
        have hnb32 := NB116_107.out
        have hnc32 := NB107_116.out
        obtain ⟨hcz33_0, hcz33_1, hfz33_0, hfz33_1⟩ := bc2 BK116
        go_wp2_with (first | ((with_reducible refine gate_dst (N := 65) rfl ?_); refine gl (some 65) Tryd.func34 #[.agg #[.int .u32 x117000_2, .int .i64 t111]] ?_; (with_reducible refine (prefix_May.calls x117000_2 t111 true _ A30.out).mono ?_); rintro e w34 ⟨rfl, hb⟩; refine ⟨_, rfl, ?_⟩; replace HO_42 := Aside0.mk (Kd.R_below (kR HO_42) hb); replace BK107 := bkb BK107 hb; replace BK116 := bkb BK116 hb; replace HB := bst hb; (try clear hb); (try clear hb2); (try clear hk); (try clear hi); obtain ⟨hcz35_0, hcz35_1, hfz35_0, hfz35_1⟩ := bc2 BK116; obtain ⟨hcz36_0, hcz36_1, hfz36_0, hfz36_1⟩ := bc2 BK107))
        refine bodyPost_ret (results_ct rfl _ _ gb107 31 #[.int .u32 x117000_2, .int .i64 t111] (0, 0) _ rfl (bkp BK107) Tryd.underlying31 rfl (by kernel_rfl)) rfl ?_
        exact ⟨by first | rfl | (simp [errW_none, errW_some] <;> rfl) | (simp [*, errW_none, errW_some] <;> rfl), by repeat (first | (with_reducible first | exact HB.out | apply below_alloc | apply pw_below_drewN | apply below_drew1 | refine below_set ?_ GE107.out | refine below_set ?_ GE116.out) | exact HB.out)⟩
       ·replace c31 := Bool.eq_false_iff.mpr c31
        subst c31
        have H1 : (some (0, 0, false)) = some (r1, r2, r3) := by rw [if_neg (show ¬ (false = true) by decide)] at H; exact H
        clear H
        have H := H1
        clear H1
        simp only [Option.some.injEq, Prod.mk.injEq] at H
        obtain ⟨rfl, rfl, rfl⟩ := H
        have hnb37 := NB116_107.out
        have hnc37 := NB107_116.out
        obtain ⟨hcz38_0, hcz38_1, hfz38_0, hfz38_1⟩ := bc2 BK116
        go_wp2_with (first | ((with_reducible refine gate_dst (N := 65) rfl ?_); refine gl (some 65) Tryd.func34 #[.agg #[.int .u32 x117000_2, .int .i64 t111]] ?_; (with_reducible refine (prefix_May.calls x117000_2 t111 false _ A30.out).mono ?_); rintro e w39 ⟨rfl, hb⟩; refine ⟨_, rfl, ?_⟩; replace HO_42 := Aside0.mk (Kd.R_below (kR HO_42) hb); replace BK107 := bkb BK107 hb; replace BK116 := bkb BK116 hb; replace HB := bst hb; (try clear hb); (try clear hb2); (try clear hk); (try clear hi); obtain ⟨hcz40_0, hcz40_1, hfz40_0, hfz40_1⟩ := bc2 BK107))
        refine bodyPost_ret (results_ct rfl _ _ gb107 31 #[.int .u32 0, .int .i64 0] (0, 0) _ rfl (bkp BK107) Tryd.underlying31 rfl (by kernel_rfl)) rfl ?_
        exact ⟨by first | rfl | (simp [errW_none, errW_some] <;> rfl) | (simp [*, errW_none, errW_some] <;> rfl), by repeat (first | (with_reducible first | exact HB.out | apply below_alloc | apply pw_below_drewN | apply below_drew1 | refine below_set ?_ GE107.out | refine below_set ?_ GE116.out) | exact HB.out)⟩

end Go.Proofs.YthodilggomedgaaDoor.PTb
