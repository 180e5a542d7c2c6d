-- Written by wip/xprint.py of this work: the printer of the kit, with contracts of this work beside it, shortened.
import Derived.Test.YtbclogifkifaaaaDoorShort
import Derived.Test.YtbclogifkifaaaaDoorPPrex0
import Derived.Test.YtbclogifkifaaaaDoorPPrex2
import Derived.Test.YtbclogifkifaaaaDoorPPrex3
import Derived.Test.YtbclogifkifaaaaDoorPPrex4
import Derived.Test.YtbclogifkifaaaaDoorPPrex6
namespace Go.Proofs.YtbclogifkifaaaaDoor.PPre
open Go.RowKit Go.Proofs.YtbclogifkifaaaaDoor.Short Go.Proofs.YtbclogifkifaaaaDoorW.PrintWords Go.Proofs.YtbclogifkifaaaaDoorW.PrintLast Go.Proofs.YtbclogifkifaaaaDoorW.PrintMore
attribute [local go_sem] max2_int min2_int max_two min_two max_three min_three max_four min_four   -- for this text's walks alone
set_option linter.unusedVariables false
set_option linter.unusedSimpArgs false

/-! ### prefix_Parse: function 7 -/
mutual
def prefix_Parse.j0 : Nat → Int → List ByteArray → Bool → Option (Int × Int × Bool)
 | 0, _, _, _ => none
 | k + 1, x7, x9, x38 => if x38 = true then (some (0, 0, false)) else (prefix_Parse.l0 k x9 (x9.length : Int) 0 0 x7)
def prefix_Parse.l0 : Nat → List ByteArray → Int → Int → Int → Int → Option (Int × Int × Bool)
 | 0, _, _, _, _, _ => none
 | k + 1, x42, x43, x44, x113000, x113001 => if x44 < x43 then (if 0 ≤ x44 then (if x44 < (x42.length : Int) then ((prefix_number.f (rdOf ByteArray.empty x42 x44) 255).bind fun bt114 => (if bt114.2 = true then (prefix_Parse.l0 k x42 x43 (wrap64 (x44 + 1)) (Go.bits .or .u32 ((x113000 * 256) % 4294967296) ((bt114.1) % 4294967296)) x113001) else (some (0, 0, false)))) else (none)) else (none)) else ((prefix_May.f x113000 x113001).bind fun t116 => (if t116 = true then (some (x113000, x113001, true)) else (some (0, 0, false))))
end
def prefix_Parse.f (k : Nat) (a0 : ByteArray) : Option (Int × Int × Bool) := (strings_Cut.f a0 (⟨#[47]⟩ : ByteArray)).bind fun bt104 => ((prefix_number.f bt104.2.1 32).bind fun bt107 => ((strings_Split.f bt104.1 (⟨#[46]⟩ : ByteArray)).bind fun t109 => (if bt104.2.2 = true then (if bt107.2 = true then (prefix_Parse.j0 k bt107.1 t109 ((t109.length : Int) != 4)) else (prefix_Parse.j0 k bt107.1 t109 true)) else (prefix_Parse.j0 k bt107.1 t109 true))))
theorem prefix_Parse.mono_l : ∀ k, (∀ y0 y1 y2, LeO (prefix_Parse.j0 k y0 y1 y2) (prefix_Parse.j0 (k + 1) y0 y1 y2)) ∧ (∀ y0 y1 y2 y3 y4, LeO (prefix_Parse.l0 k y0 y1 y2 y3 y4) (prefix_Parse.l0 (k + 1) y0 y1 y2 y3 y4))
 | 0 => ⟨fun _ _ _ r h => by simp [prefix_Parse.j0] at h, fun _ _ _ _ _ r h => by simp [prefix_Parse.l0] at h⟩
 | k + 1 => by
  obtain ⟨ih0, ih1⟩ := prefix_Parse.mono_l k
  refine ⟨?_, ?_⟩<;> intros <;> (first | unfold prefix_Parse.j0 | unfold prefix_Parse.l0) <;> repeat' first
   | (with_reducible exact ih0 _ _ _)
   | (with_reducible exact ih1 _ _ _ _ _)
   | (with_reducible exact LeO.refl _)
   | (with_reducible exact LeO.none _)
   | (with_reducible refine LeO.ite ?_ ?_)
   | (with_reducible refine LeO.bind ?_ (fun _ => ?_))
   | exact ih0 _ _ _
   | exact ih1 _ _ _ _ _
   | exact LeO.none _
   | refine LeO.ite ?_ ?_
   | refine LeO.bind ?_ (fun _ => ?_)
theorem prefix_Parse.mono : ∀ a0 k, LeO (prefix_Parse.f k a0) (prefix_Parse.f (k + 1) a0) := by
 intro a0 k
 obtain ⟨ih0, ih1⟩ := prefix_Parse.mono_l k
 unfold prefix_Parse.f
 repeat' first
   | (with_reducible exact ih0 _ _ _)
   | (with_reducible exact ih1 _ _ _ _ _)
   | (with_reducible exact LeO.refl _)
   | (with_reducible exact LeO.none _)
   | (with_reducible refine LeO.ite ?_ ?_)
   | (with_reducible refine LeO.bind ?_ (fun _ => ?_))
   | exact ih0 _ _ _
   | exact ih1 _ _ _ _ _
   | exact LeO.none _
   | refine LeO.ite ?_ ?_
   | refine LeO.bind ?_ (fun _ => ?_)
set_option maxHeartbeats 8000000 in
set_option maxRecDepth 100000 in
theorem prefix_Parse.calls (k : Nat) (a0 : ByteArray) (r1 : Int) (r2 : Int) (r3 : Bool) (w : World) (h : prefix_Parse.f k a0 = some (r1, r2, r3)) (hInv : Go.Proofs.YtbclogifkifaaaaDoor.Inv.Inv w) :
  Calls Tryd.prog 7 #[.string a0] w fun e w' => e = .returned (.tuple #[.agg #[.int .u32 r1, .int .i64 r2], .bool r3]) ∧ Below w.heap.size w w' := by
 have hu27 := Tryd.underlying27
 have HB := Aside0.mk (Below.refl w.heap.size w)
 have H : ((strings_Cut.f a0 (⟨#[47]⟩ : ByteArray)).bind fun bt104 => ((prefix_number.f bt104.2.1 32).bind fun bt107 => ((strings_Split.f bt104.1 (⟨#[46]⟩ : ByteArray)).bind fun t109 => (if bt104.2.2 = true then (if bt107.2 = true then (prefix_Parse.j0 k bt107.1 t109 ((t109.length : Int) != 4)) else (prefix_Parse.j0 k bt107.1 t109 true)) else (prefix_Parse.j0 k bt107.1 t109 true))))) = some (r1, r2, r3) := h
 clear h
 replace H := Option.bind_eq_some_iff.mp H
 obtain ⟨⟨t104, t105, t106⟩, A20, H⟩ := H
 replace H : ((prefix_number.f t105 32).bind fun bt107 => ((strings_Split.f t104 (⟨#[46]⟩ : ByteArray)).bind fun t109 => (if t106 = true then (if bt107.2 = true then (prefix_Parse.j0 k bt107.1 t109 ((t109.length : Int) != 4)) else (prefix_Parse.j0 k bt107.1 t109 true)) else (prefix_Parse.j0 k bt107.1 t109 true)))) = some (r1, r2, r3) := H
 have A2 := Aside0.mk A20
 clear A20
 replace H := Option.bind_eq_some_iff.mp H
 obtain ⟨⟨t107, t108⟩, A30, H⟩ := H
 replace H : ((strings_Split.f t104 (⟨#[46]⟩ : ByteArray)).bind fun t109 => (if t106 = true then (if t108 = true then (prefix_Parse.j0 k t107 t109 ((t109.length : Int) != 4)) else (prefix_Parse.j0 k t107 t109 true)) else (prefix_Parse.j0 k t107 t109 true))) = some (r1, r2, r3) := H
 have A3 := Aside0.mk A30
 clear A30
 replace H := Option.bind_eq_some_iff.mp H
 obtain ⟨t109, A40, H⟩ := H
 replace H : (if t106 = true then (if t108 = true then (prefix_Parse.j0 k t107 t109 ((t109.length : Int) != 4)) else (prefix_Parse.j0 k t107 t109 true)) else (prefix_Parse.j0 k t107 t109 true)) = some (r1, r2, r3) := H
 have A4 := Aside0.mk A40
 clear A40
 have HC5 := Aside0.mk H
 clear H
 go_enter Tryd.func7, Tryd.ntmps7
 go_upto_region 4 with (first | ((with_reducible refine gate_dst (N := 2) rfl ?_); (try (refine gate_guard (by rfl) ?_; dsimp only)); refine bx 2 (cs := #[.int .u32 0, .int .i64 0]) (t := 27) (h := ?_); intro gb103 hg w6 hbox hb; have BK103 := Aside0.mk hbox; have GW103 : Aside0 (w.heap.size ≤ gb103) := bge hg; have GE103 : Aside0 (w.heap.size ≤ gb103) := bge hg; replace HB := bst hb; clear hb hbox hg) | ((with_reducible refine gate_dst (N := 17) rfl ?_); refine gl (some 17) Tryd.func11 #[.string a0, .string (⟨#[47]⟩ : ByteArray)] ?_; (with_reducible refine (strings_Cut.calls a0 (⟨#[47]⟩ : ByteArray) t104 t105 t106 _ A2.out (Go.Proofs.YtbclogifkifaaaaDoor.Inv.ivb hInv)).mono ?_); rintro e w7 ⟨rfl, hb⟩; refine ⟨_, rfl, ?_⟩; replace BK103 := bkb BK103 hb; replace HB := bst hb; (try clear hb); (try clear hb2); (try clear hk); (try clear hi)) | ((with_reducible refine gate_dst (N := 23) rfl ?_); refine gl (some 23) Tryd.func12 #[.string t105, .int .i64 32] ?_; (with_reducible refine (prefix_number.calls t105 32 t107 t108 _ A3.out (Go.Proofs.YtbclogifkifaaaaDoor.Inv.ivb hInv)).mono ?_); rintro e w8 ⟨rfl, hb⟩; refine ⟨_, rfl, ?_⟩; replace BK103 := bkb BK103 hb; replace HB := bst hb; (try clear hb); (try clear hb2); (try clear hk); (try clear hi)) | ((with_reducible refine gate_dst (N := 27) rfl ?_); refine gl (some 27) Tryd.func13 #[.string t104, .string (⟨#[46]⟩ : ByteArray)] ?_; (with_reducible refine (strings_Split.calls t104 (⟨#[46]⟩ : ByteArray) t109 _ A4.out (Go.Proofs.YtbclogifkifaaaaDoor.Inv.ivb hInv)).mono ?_); rintro e w9 ⟨v110, rfl, ho0, hb⟩; refine ⟨_, rfl, ?_⟩; have HO111 := Aside0.mk (Kd.R_lower ho0 (below_size bel)); replace BK103 := bkb BK103 hb; replace HB := bst hb; (try clear hb); (try clear hb2); (try clear hk); (try clear hi); (try clear ho0)))
 (try simp only [Act.put, List.setIfInBounds_toArray, List.set_cons_zero, List.set_cons_succ])
 go_cut [38] (fun v38 wc => ∃ (kq : Nat) (x38_4 : Bool), v38 = .bool x38_4 ∧ Aside0 (prefix_Parse.j0 kq t107 t109 x38_4 = some (r1, r2, r3)) ∧ Aside0 (kq ≤ k) ∧ Aside0 (Kd.R Kd.string 9 wc w.heap.size (fun _ => True) v110 t109) ∧ Aside0 (wc.heap[gb103]? = some (.cells #[.int .u32 0, .int .i64 0] 27 (0, 0))) ∧ Aside0 (Below w.heap.size w wc))
 case first =>
  have H := HC5.out
  clear HC5
  by_cases c10 : t106 = true
  ·subst c10
   have H1 : (if t108 = true then (prefix_Parse.j0 k t107 t109 ((t109.length : Int) != 4)) else (prefix_Parse.j0 k t107 t109 true)) = some (r1, r2, r3) := by rw [if_pos rfl] at H; exact H
   clear H
   have H := H1
   clear H1
   by_cases c11 : t108 = true
   ·subst c11
    have H1 : (prefix_Parse.j0 k t107 t109 ((t109.length : Int) != 4)) = some (r1, r2, r3) := by rw [if_pos rfl] at H; exact H
    clear H
    have H := H1
    clear H1
    have H' := Aside0.mk H
    clear H
    obtain ⟨Ao12, co12, eo12⟩ := Kd.R_slice HO111.out
    subst eo12
    go_wp2
    go_meet
    case rel => exact ⟨_, (((t109.length : Int) != 4)), (by first | rfl | (simp; done) | (simp [*]; done)), H', ⟨by first | omega | exact Nat.le_refl _⟩, ⟨by (with_reducible repeat (first | apply Kd.R_alloc | apply Kd.R_drewN | apply Kd.R_drew)); exact HO111.out⟩, ⟨bkq BK103⟩, ⟨by repeat (first | (with_reducible first | exact HB.out | apply below_alloc | apply pw_below_drewN | apply below_drew1 | refine below_set ?_ GE103.out) | exact HB.out)⟩⟩
   ·replace c11 := Bool.eq_false_iff.mpr c11
    subst c11
    have H1 : (prefix_Parse.j0 k t107 t109 true) = some (r1, r2, r3) := by rw [if_neg (show ¬ (false = true) by decide)] at H; exact H
    clear H
    have H := H1
    clear H1
    have H' := Aside0.mk H
    clear H
    go_wp2
    go_meet
    case rel => exact ⟨_, (true), (by first | rfl | (simp; done) | (simp [*]; done)), H', ⟨by first | omega | exact Nat.le_refl _⟩, ⟨by (with_reducible repeat (first | apply Kd.R_alloc | apply Kd.R_drewN | apply Kd.R_drew)); exact HO111.out⟩, ⟨bkq BK103⟩, ⟨by repeat (first | (with_reducible first | exact HB.out | apply below_alloc | apply pw_below_drewN | apply below_drew1 | refine below_set ?_ GE103.out) | exact HB.out)⟩⟩
  ·replace c10 := Bool.eq_false_iff.mpr c10
   subst c10
   have H1 : (prefix_Parse.j0 k t107 t109 true) = some (r1, r2, r3) := by rw [if_neg (show ¬ (false = true) by decide)] at H; exact H
   clear H
   have H := H1
   clear H1
   have H' := Aside0.mk H
   clear H
   go_wp2
   go_meet
   case rel => exact ⟨_, (true), (by first | rfl | (simp; done) | (simp [*]; done)), H', ⟨by first | omega | exact Nat.le_refl _⟩, ⟨by (with_reducible repeat (first | apply Kd.R_alloc | apply Kd.R_drewN | apply Kd.R_drew)); exact HO111.out⟩, ⟨bkq BK103⟩, ⟨by repeat (first | (with_reducible first | exact HB.out | apply below_alloc | apply pw_below_drewN | apply below_drew1 | refine below_set ?_ GE103.out) | exact HB.out)⟩⟩
 case rest =>
  clear HC5
  try clear c1
  try clear p2
  try clear c7
  try clear c10
  try clear c11
  try clear c12
  obtain ⟨kq, x38_4, rfl, HA, HJ4, HO_9, BK103, HB⟩ := hcut
  cases kq with
  | zero => exact absurd HA.out (by simp [prefix_Parse.j0])
  | succ kj4 =>
   have H := HA.out
   clear HA
   simp only [prefix_Parse.j0] at H
   by_cases c13 : x38_4 = true
   ·subst c13
    have H1 : (some (0, 0, false)) = some (r1, r2, r3) := by rw [if_pos rfl] at H; exact H
    clear H
    have H := H1
    clear H1
    simp only [Option.some.injEq, Prod.mk.injEq] at H
    obtain ⟨rfl, rfl, rfl⟩ := H
    obtain ⟨hcz14_0, hcz14_1, hfz14_0, hfz14_1⟩ := bc2 BK103
    go_wp2
    refine bodyPost_ret (results_ct rfl _ _ gb103 27 #[.int .u32 0, .int .i64 0] (0, 0) _ rfl (bkp BK103) Tryd.underlying27 rfl (by kernel_rfl)) rfl ?_
    exact ⟨by first | rfl | (simp [errW_none, errW_some] <;> rfl) | (simp [*, errW_none, errW_some] <;> rfl), by repeat (first | (with_reducible first | exact HB.out | apply below_alloc | apply pw_below_drewN | apply below_drew1 | refine below_set ?_ GE103.out) | exact HB.out)⟩
   ·replace c13 := Bool.eq_false_iff.mpr c13
    subst c13
    have H1 : (prefix_Parse.l0 kj4 t109 (t109.length : Int) 0 0 t107) = some (r1, r2, r3) := by rw [if_neg (show ¬ (false = true) by decide)] at H; exact H
    clear H
    have H := H1
    clear H1
    have H' := Aside0.mk H
    clear H
    go_wp2_with (first | ((with_reducible refine gate_dst (N := 10) rfl ?_); (try (refine gate_guard (by rfl) ?_; dsimp only)); refine bx 10 (cs := #[.int .u32 0, .int .i64 0]) (t := 27) (h := ?_); intro gb112 hg w15 hbox hb; have BK112 := Aside0.mk hbox; have GW112 : Aside0 (w.heap.size ≤ gb112) := bge hg; have GE112 : Aside0 (w.heap.size ≤ gb112) := bge hg; have NB103_112 := bne BK103 hg; have NB112_103 := bnf BK103 hg; replace HO_9 := Aside0.mk (Kd.R_below (kR HO_9) hb); replace BK103 := bkb BK103 hb; replace HB := bst hb; clear hb hbox hg; have hnb16 := NB112_103.out; have hnc16 := NB103_112.out; obtain ⟨hcz17_0, hcz17_1, hfz17_0, hfz17_1⟩ := bc2 BK112; obtain ⟨Ao18, co18, eo18⟩ := Kd.R_slice HO_9.out; subst eo18))
    go_loopg [44] kj4 (fun kq v44 w' => ∃ (x44_2 : Int) (x104000_2 : Int) (x104001_2 : Int) (x113000_2 : Int), v44 = .int .i64 x44_2 ∧ Aside0 (prefix_Parse.l0 kq t109 (t109.length : Int) x44_2 x113000_2 t107 = some (r1, r2, r3)) ∧ Aside0 (kq ≤ kj4) ∧ Aside0 (Kd.R Kd.string 9 w' w.heap.size (fun _ => True) (.slice Ao18 t109.length co18) t109) ∧ Aside0 (w'.heap[gb103]? = some (.cells #[.int .u32 x104000_2, .int .i64 x104001_2] 27 (0, 0))) ∧ Aside0 (w'.heap[gb112]? = some (.cells #[.int .u32 x113000_2, .int .i64 t107] 27 (0, 0))) ∧ Aside0 (Below w.heap.size w w'))
    case atStart => exact ⟨(0), (0), (0), (0), (by first | rfl | (simp; done) | (simp [*]; done)), H', ⟨Nat.le_refl _⟩, ⟨by (with_reducible repeat (first | apply Kd.R_alloc | apply Kd.R_drewN | apply Kd.R_drew)); exact Kd.R_mono (Kd.R_far (p := ⟨gb112, 1, none⟩) (Kd.R_far (p := ⟨gb112, 0, none⟩) (Kd.R_types HO_9.out BK112.out (by decide)) (fun _ hk => hk.2) (.int .u32 0)) (fun _ hk => hk.2) (.int .i64 t107)) (fun _ hk => trivial)⟩, ⟨bkq BK103⟩, ⟨bkp BK112⟩, ⟨by repeat (first | (with_reducible first | exact HB.out | apply below_alloc | apply pw_below_drewN | apply below_drew1 | refine below_set ?_ GE103.out | refine below_set ?_ GE112.out) | exact HB.out)⟩⟩
    case round =>
     clear H'
     try clear c1
     try clear p2 p2
     try clear c7
     try clear c10
     try clear c11
     try clear c12
     try clear c13
     try clear c16
     try clear hcz14_0 hcz14_1 hfz14_0 hfz14_1
     try clear hcz17_0 hcz17_1 hfz17_0 hfz17_1
     obtain ⟨x44_2, x104000_2, x104001_2, x113000_2, rfl, HA, HK2, HO_42, BK103, BK112, HB⟩ := hrel
     cases gk with
     | zero => exact absurd HA.out (by simp [prefix_Parse.l0])
     | succ k2 =>
      have H := HA.out
      clear HA
      simp only [prefix_Parse.l0] at H
      by_cases c19 : x44_2 < (t109.length : Int)
      ·rw [if_pos c19] at H
       have c19b0 := decide_eq_true c19
       clear c19
       by_cases c20 : 0 ≤ x44_2
       ·rw [if_pos c20] at H
        have c20b0 := decide_eq_true c20
        clear c20
        by_cases c21 : x44_2 < (t109.length : Int)
        ·rw [if_pos c21] at H
         have c21b0 := decide_eq_true c21
         clear c21
         replace H := Option.bind_eq_some_iff.mp H
         obtain ⟨⟨t114, t115⟩, A220, H⟩ := H
         replace H : (if t115 = true then (prefix_Parse.l0 k2 t109 (t109.length : Int) (wrap64 (x44_2 + 1)) (Go.bits .or .u32 ((x113000_2 * 256) % 4294967296) ((t114) % 4294967296)) t107) else (some (0, 0, false))) = some (r1, r2, r3) := H
         have A22 := Aside0.mk A220
         clear A220
         by_cases c23 : t115 = true
         ·subst c23
          have H1 : (prefix_Parse.l0 k2 t109 (t109.length : Int) (wrap64 (x44_2 + 1)) (Go.bits .or .u32 ((x113000_2 * 256) % 4294967296) ((t114) % 4294967296)) t107) = some (r1, r2, r3) := by rw [if_pos rfl] at H; exact H
          clear H
          have H := H1
          clear H1
          have H' := Aside0.mk H
          clear H
          have p113 : 0 ≤ (x44_2 : Int) := of_decide_eq_true (by first | (with_reducible assumption) | assumption)
          have q113 : x44_2 < (t109.length : Int) := of_decide_eq_true (by first | (with_reducible assumption) | assumption)
          obtain ⟨ad113, e113, hx113_0⟩ := Kd.at_string (Kd.R_reads' HO_42.out).2.2 x44_2 p113 q113
          cases e113
          replace p113 := eq_true p113
          replace q113 := eq_true q113
          go_wp2_with (first | ((with_reducible refine gate_dst (N := 50) rfl ?_); refine gl (some 50) Tryd.func12 #[.string (rdOf ByteArray.empty t109 x44_2), .int .i64 255] ?_; (with_reducible refine (prefix_number.calls (rdOf ByteArray.empty t109 x44_2) 255 t114 true _ A22.out (Go.Proofs.YtbclogifkifaaaaDoor.Inv.ivb hInv)).mono ?_); rintro e w24 ⟨rfl, hb⟩; refine ⟨_, rfl, ?_⟩; replace HO_42 := Aside0.mk (Kd.R_below (kR HO_42) hb); replace BK103 := bkb BK103 hb; replace BK112 := bkb BK112 hb; replace HB := bst hb; (try clear hb); (try clear hb2); (try clear hk); (try clear hi); have hnb25 := NB112_103.out; have hnc25 := NB103_112.out; obtain ⟨hcz26_0, hcz26_1, hfz26_0, hfz26_1⟩ := bc2 BK112))
          go_roundg k2
          case measure => have := HJ4.out; have := HK2.out; omega
          case rel => exact ⟨(wrap64 (x44_2 + 1)), (x104000_2), (x104001_2), (Go.bits .or .u32 ((x113000_2 * 256) % 4294967296) ((t114) % 4294967296)), (by first | rfl | (simp; done) | (simp [*]; done)), H', ⟨by have := HJ4.out; have := HK2.out; omega⟩, ⟨by (with_reducible repeat (first | apply Kd.R_alloc | apply Kd.R_drewN | apply Kd.R_drew)); exact Kd.R_mono (Kd.R_far (p := ⟨gb112, 0, none⟩) (Kd.R_types HO_42.out BK112.out (by decide)) (fun _ hk => hk.2) (.int .u32 (Go.bits .or .u32 ((x113000_2 * 256) % 4294967296) ((t114) % 4294967296)))) (fun _ hk => trivial)⟩, ⟨bkq BK103⟩, ⟨bkp BK112⟩, ⟨by repeat (first | (with_reducible first | exact HB.out | apply below_alloc | apply pw_below_drewN | apply below_drew1 | refine below_set ?_ GE103.out | refine below_set ?_ GE112.out) | exact HB.out)⟩⟩
         ·replace c23 := Bool.eq_false_iff.mpr c23
          subst c23
          have H1 : (some (0, 0, false)) = some (r1, r2, r3) := by rw [if_neg (show ¬ (false = true) by decide)] at H; exact H
          clear H
          have H := H1
          clear H1
          simp only [Option.some.injEq, Prod.mk.injEq] at H
          obtain ⟨rfl, rfl, rfl⟩ := H
          have p113 : 0 ≤ (x44_2 : Int) := of_decide_eq_true (by first | (with_reducible assumption) | assumption)
          have q113 : x44_2 < (t109.length : Int) := of_decide_eq_true (by first | (with_reducible assumption) | assumption)
          obtain ⟨ad113, e113, hx113_0⟩ := Kd.at_string (Kd.R_reads' HO_42.out).2.2 x44_2 p113 q113
          cases e113
          replace p113 := eq_true p113
          replace q113 := eq_true q113
          go_wp2_with (first | ((with_reducible refine gate_dst (N := 50) rfl ?_); refine gl (some 50) Tryd.func12 #[.string (rdOf ByteArray.empty t109 x44_2), .int .i64 255] ?_; (with_reducible refine (prefix_number.calls (rdOf ByteArray.empty t109 x44_2) 255 t114 false _ A22.out (Go.Proofs.YtbclogifkifaaaaDoor.Inv.ivb hInv)).mono ?_); rintro e w27 ⟨rfl, hb⟩; refine ⟨_, rfl, ?_⟩; replace HO_42 := Aside0.mk (Kd.R_below (kR HO_42) hb); replace BK103 := bkb BK103 hb; replace BK112 := bkb BK112 hb; replace HB := bst hb; (try clear hb); (try clear hb2); (try clear hk); (try clear hi); have hnb28 := NB103_112.out; have hnc28 := NB112_103.out; obtain ⟨hcz29_0, hcz29_1, hfz29_0, hfz29_1⟩ := bc2 BK103))
          refine bodyPost_ret (results_ct rfl _ _ gb103 27 #[.int .u32 0, .int .i64 0] (0, 0) _ rfl (bkp BK103) Tryd.underlying27 rfl (by kernel_rfl)) rfl ?_
          exact ⟨by first | rfl | (simp [errW_none, errW_some] <;> rfl) | (simp [*, errW_none, errW_some] <;> rfl), by repeat (first | (with_reducible first | exact HB.out | apply below_alloc | apply pw_below_drewN | apply below_drew1 | refine below_set ?_ GE103.out | refine below_set ?_ GE112.out) | exact HB.out)⟩
        ·rw [if_neg c21] at H
         exact absurd H (by simp)
       ·rw [if_neg c20] at H
        exact absurd H (by simp)
      ·rw [if_neg c19] at H
       have c19b0 := decide_eq_false c19
       clear c19
       replace H := Option.bind_eq_some_iff.mp H
       obtain ⟨t116, A300, H⟩ := H
       replace H : (if t116 = true then (some (x113000_2, t107, true)) else (some (0, 0, false))) = some (r1, r2, r3) := H
       have A30 := Aside0.mk A300
       clear A300
       by_cases c31 : t116 = true
       ·subst c31
        have H1 : (some (x113000_2, t107, true)) = some (r1, r2, r3) := by rw [if_pos rfl] at H; exact H
        clear H
        have H := H1
        clear H1
        simp only [Option.some.injEq, Prod.mk.injEq] at H
        obtain ⟨rfl, rfl, rfl⟩ := H
        have hnb32 := NB112_103.out
        have hnc32 := NB103_112.out
        obtain ⟨hcz33_0, hcz33_1, hfz33_0, hfz33_1⟩ := bc2 BK112
        go_wp2_with (first | ((with_reducible refine gate_dst (N := 65) rfl ?_); refine gl (some 65) Tryd.func14 #[.agg #[.int .u32 x113000_2, .int .i64 t107]] ?_; (with_reducible refine (prefix_May.calls x113000_2 t107 true _ A30.out).mono ?_); rintro e w34 ⟨rfl, hb⟩; refine ⟨_, rfl, ?_⟩; replace HO_42 := Aside0.mk (Kd.R_below (kR HO_42) hb); replace BK103 := bkb BK103 hb; replace BK112 := bkb BK112 hb; replace HB := bst hb; (try clear hb); (try clear hb2); (try clear hk); (try clear hi); obtain ⟨hcz35_0, hcz35_1, hfz35_0, hfz35_1⟩ := bc2 BK112; obtain ⟨hcz36_0, hcz36_1, hfz36_0, hfz36_1⟩ := bc2 BK103))
        refine bodyPost_ret (results_ct rfl _ _ gb103 27 #[.int .u32 x113000_2, .int .i64 t107] (0, 0) _ rfl (bkp BK103) Tryd.underlying27 rfl (by kernel_rfl)) rfl ?_
        exact ⟨by first | rfl | (simp [errW_none, errW_some] <;> rfl) | (simp [*, errW_none, errW_some] <;> rfl), by repeat (first | (with_reducible first | exact HB.out | apply below_alloc | apply pw_below_drewN | apply below_drew1 | refine below_set ?_ GE103.out | refine below_set ?_ GE112.out) | exact HB.out)⟩
       ·replace c31 := Bool.eq_false_iff.mpr c31
        subst c31
        have H1 : (some (0, 0, false)) = some (r1, r2, r3) := by rw [if_neg (show ¬ (false = true) by decide)] at H; exact H
        clear H
        have H := H1
        clear H1
        simp only [Option.some.injEq, Prod.mk.injEq] at H
        obtain ⟨rfl, rfl, rfl⟩ := H
        have hnb37 := NB112_103.out
        have hnc37 := NB103_112.out
        obtain ⟨hcz38_0, hcz38_1, hfz38_0, hfz38_1⟩ := bc2 BK112
        go_wp2_with (first | ((with_reducible refine gate_dst (N := 65) rfl ?_); refine gl (some 65) Tryd.func14 #[.agg #[.int .u32 x113000_2, .int .i64 t107]] ?_; (with_reducible refine (prefix_May.calls x113000_2 t107 false _ A30.out).mono ?_); rintro e w39 ⟨rfl, hb⟩; refine ⟨_, rfl, ?_⟩; replace HO_42 := Aside0.mk (Kd.R_below (kR HO_42) hb); replace BK103 := bkb BK103 hb; replace BK112 := bkb BK112 hb; replace HB := bst hb; (try clear hb); (try clear hb2); (try clear hk); (try clear hi); obtain ⟨hcz40_0, hcz40_1, hfz40_0, hfz40_1⟩ := bc2 BK103))
        refine bodyPost_ret (results_ct rfl _ _ gb103 27 #[.int .u32 0, .int .i64 0] (0, 0) _ rfl (bkp BK103) Tryd.underlying27 rfl (by kernel_rfl)) rfl ?_
        exact ⟨by first | rfl | (simp [errW_none, errW_some] <;> rfl) | (simp [*, errW_none, errW_some] <;> rfl), by repeat (first | (with_reducible first | exact HB.out | apply below_alloc | apply pw_below_drewN | apply below_drew1 | refine below_set ?_ GE103.out | refine below_set ?_ GE112.out) | exact HB.out)⟩

end Go.Proofs.YtbclogifkifaaaaDoor.PPre
