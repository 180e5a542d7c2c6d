-- Written by wip/xprint.py of this work: the printer of the kit, with contracts of this work beside it, shortened.
import Derived.Test.YtkbjjamaneiijaaDoorShort
import Derived.Test.YtkbjjamaneiijaaDoorPPrex0
import Derived.Test.YtkbjjamaneiijaaDoorPPrex3
import Derived.Test.YtkbjjamaneiijaaDoorPPrex7
import Derived.Test.YtkbjjamaneiijaaDoorJ1
namespace Go.Proofs.YtkbjjamaneiijaaDoor.PPre
open Go.RowKit Go.Proofs.YtkbjjamaneiijaaDoor.Short Go.Proofs.YtkbjjamaneiijaaDoorW.PrintWords Go.Proofs.YtkbjjamaneiijaaDoorW.PrintLast Go.Proofs.YtkbjjamaneiijaaDoorW.PrintMore
attribute [local go_sem] max2_int min2_int max_two min_two max_three min_three max_four min_four   -- for this text's walks alone
set_option linter.unusedVariables false
set_option linter.unusedSimpArgs false

/-! ### prefix_Parse: function 20 -/
mutual
def prefix_Parse.j0 : Nat → Int → List ByteArray → Bool → Option (Int × Int × Bool)
 | 0, _, _, _ => none
 | k + 1, x7, x9, x38 => if x38 = true then (some (0, 0, false)) else (prefix_Parse.l0 k x9 (x9.length : Int) 0 0 x7)
def prefix_Parse.l0 : Nat → List ByteArray → Int → Int → Int → Int → Option (Int × Int × Bool)
 | 0, _, _, _, _, _ => none
 | k + 1, x42, x43, x44, x121000, x121001 => if x44 < x43 then (if 0 ≤ x44 then (if x44 < (x42.length : Int) then ((prefix_number.f (rdOf ByteArray.empty x42 x44) 255).bind fun bt122 => (if bt122.2 = true then (prefix_Parse.l0 k x42 x43 (wrap64 (x44 + 1)) (Go.bits .or .u32 ((x121000 * 256) % 4294967296) ((bt122.1) % 4294967296)) x121001) else (some (0, 0, false)))) else (none)) else (none)) else ((prefix_May.f x121000 x121001).bind fun t124 => (if t124 = true then (some (x121000, x121001, true)) else (some (0, 0, false))))
end
def prefix_Parse.f (k : Nat) (a0 : ByteArray) : Option (Int × Int × Bool) := (strings_Cut.f a0 (⟨#[47]⟩ : ByteArray)).bind fun bt112 => ((prefix_number.f bt112.2.1 32).bind fun bt115 => ((strings_Split.f bt112.1 (⟨#[46]⟩ : ByteArray)).bind fun t117 => (if bt112.2.2 = true then (if bt115.2 = true then (prefix_Parse.j0 k bt115.1 t117 ((t117.length : Int) != 4)) else (prefix_Parse.j0 k bt115.1 t117 true)) else (prefix_Parse.j0 k bt115.1 t117 true))))
theorem prefix_Parse.mono_l : ∀ k, (∀ y0 y1 y2, LeO (prefix_Parse.j0 k y0 y1 y2) (prefix_Parse.j0 (k + 1) y0 y1 y2)) ∧ (∀ y0 y1 y2 y3 y4, LeO (prefix_Parse.l0 k y0 y1 y2 y3 y4) (prefix_Parse.l0 (k + 1) y0 y1 y2 y3 y4))
 | 0 => ⟨fun _ _ _ r h => by simp [prefix_Parse.j0] at h, fun _ _ _ _ _ r h => by simp [prefix_Parse.l0] at h⟩
 | k + 1 => by
  obtain ⟨ih0, ih1⟩ := prefix_Parse.mono_l k
  refine ⟨?_, ?_⟩
  ·intro y0 y1 y2
   unfold prefix_Parse.j0
   repeat' first
   | (with_reducible exact ih0 _ _ _)
   | (with_reducible exact ih1 _ _ _ _ _)
   | (with_reducible exact LeO.refl _)
   | (with_reducible exact LeO.none _)
   | (with_reducible refine LeO.ite ?_ ?_)
   | (with_reducible refine LeO.bind ?_ (fun _ => ?_))
   | exact ih0 _ _ _
   | exact ih1 _ _ _ _ _
   | exact LeO.none _
   | refine LeO.ite ?_ ?_
   | refine LeO.bind ?_ (fun _ => ?_)
  ·intro y0 y1 y2 y3 y4
   unfold prefix_Parse.l0
   repeat' first
   | (with_reducible exact ih0 _ _ _)
   | (with_reducible exact ih1 _ _ _ _ _)
   | (with_reducible exact LeO.refl _)
   | (with_reducible exact LeO.none _)
   | (with_reducible refine LeO.ite ?_ ?_)
   | (with_reducible refine LeO.bind ?_ (fun _ => ?_))
   | exact ih0 _ _ _
   | exact ih1 _ _ _ _ _
   | exact LeO.none _
   | refine LeO.ite ?_ ?_
   | refine LeO.bind ?_ (fun _ => ?_)
theorem prefix_Parse.mono : ∀ a0 k, LeO (prefix_Parse.f k a0) (prefix_Parse.f (k + 1) a0) := by
 intro a0 k
 obtain ⟨ih0, ih1⟩ := prefix_Parse.mono_l k
 unfold prefix_Parse.f
 repeat' first
   | (with_reducible exact ih0 _ _ _)
   | (with_reducible exact ih1 _ _ _ _ _)
   | (with_reducible exact LeO.refl _)
   | (with_reducible exact LeO.none _)
   | (with_reducible refine LeO.ite ?_ ?_)
   | (with_reducible refine LeO.bind ?_ (fun _ => ?_))
   | exact ih0 _ _ _
   | exact ih1 _ _ _ _ _
   | exact LeO.none _
   | refine LeO.ite ?_ ?_
   | refine LeO.bind ?_ (fun _ => ?_)
set_option maxHeartbeats 8000000 in
set_option maxRecDepth 100000 in
theorem prefix_Parse.calls (k : Nat) (a0 : ByteArray) (r1 : Int) (r2 : Int) (r3 : Bool) (w : World) (h : prefix_Parse.f k a0 = some (r1, r2, r3)) (hInv : Go.Proofs.YtkbjjamaneiijaaDoor.Inv.Inv w) :
  Calls Tryd.prog 20 #[.string a0] w fun e w' => e = .returned (.tuple #[.agg #[.int .u32 r1, .int .i64 r2], .bool r3]) ∧ Below w.heap.size w w' := by
 have hu24 := Tryd.underlying24
 have HB := Aside0.mk (Below.refl w.heap.size w)
 have H : ((strings_Cut.f a0 (⟨#[47]⟩ : ByteArray)).bind fun bt112 => ((prefix_number.f bt112.2.1 32).bind fun bt115 => ((strings_Split.f bt112.1 (⟨#[46]⟩ : ByteArray)).bind fun t117 => (if bt112.2.2 = true then (if bt115.2 = true then (prefix_Parse.j0 k bt115.1 t117 ((t117.length : Int) != 4)) else (prefix_Parse.j0 k bt115.1 t117 true)) else (prefix_Parse.j0 k bt115.1 t117 true))))) = some (r1, r2, r3) := h
 clear h
 replace H := Option.bind_eq_some_iff.mp H
 obtain ⟨⟨t112, t113, t114⟩, A20, H⟩ := H
 replace H : ((prefix_number.f t113 32).bind fun bt115 => ((strings_Split.f t112 (⟨#[46]⟩ : ByteArray)).bind fun t117 => (if t114 = true then (if bt115.2 = true then (prefix_Parse.j0 k bt115.1 t117 ((t117.length : Int) != 4)) else (prefix_Parse.j0 k bt115.1 t117 true)) else (prefix_Parse.j0 k bt115.1 t117 true)))) = some (r1, r2, r3) := H
 have A2 := Aside0.mk A20
 clear A20
 replace H := Option.bind_eq_some_iff.mp H
 obtain ⟨⟨t115, t116⟩, A30, H⟩ := H
 replace H : ((strings_Split.f t112 (⟨#[46]⟩ : ByteArray)).bind fun t117 => (if t114 = true then (if t116 = true then (prefix_Parse.j0 k t115 t117 ((t117.length : Int) != 4)) else (prefix_Parse.j0 k t115 t117 true)) else (prefix_Parse.j0 k t115 t117 true))) = some (r1, r2, r3) := H
 have A3 := Aside0.mk A30
 clear A30
 replace H := Option.bind_eq_some_iff.mp H
 obtain ⟨t117, A40, H⟩ := H
 replace H : (if t114 = true then (if t116 = true then (prefix_Parse.j0 k t115 t117 ((t117.length : Int) != 4)) else (prefix_Parse.j0 k t115 t117 true)) else (prefix_Parse.j0 k t115 t117 true)) = some (r1, r2, r3) := H
 have A4 := Aside0.mk A40
 clear A40
 have HC5 := Aside0.mk H
 clear H
 go_enter Tryd.func20, Tryd.ntmps20
 go_upto_region 4 with (first | ((with_reducible refine gate_dst (N := 2) rfl ?_); (try (refine gate_guard (by rfl) ?_; dsimp only)); refine bx 2 (cs := #[.int .u32 0, .int .i64 0]) (t := 24) (h := ?_); intro gb111 hg w6 hbox hb; have BK111 := Aside0.mk hbox; have GW111 : Aside0 (w.heap.size ≤ gb111) := bge hg; have GE111 : Aside0 (w.heap.size ≤ gb111) := bge hg; replace HB := bst hb; clear hb hbox hg) | ((with_reducible refine gate_dst (N := 17) rfl ?_); refine gl (some 17) Tryd.func37 #[.string a0, .string (⟨#[47]⟩ : ByteArray)] ?_; (with_reducible refine (strings_Cut.calls a0 (⟨#[47]⟩ : ByteArray) t112 t113 t114 _ A2.out (by with_reducible first | exact hInv | exact Go.Proofs.YtkbjjamaneiijaaDoor.Inv.Inv.below hInv HB.out | exact Go.Proofs.YtkbjjamaneiijaaDoor.Inv.Inv.below hInv bel | (repeat (first | exact hInv | exact Go.Proofs.YtkbjjamaneiijaaDoor.Inv.Inv.below hInv HB.out | exact Go.Proofs.YtkbjjamaneiijaaDoor.Inv.Inv.below hInv bel | apply Go.Proofs.YtkbjjamaneiijaaDoor.Inv.Inv.alloc | apply Go.Proofs.YtkbjjamaneiijaaDoor.Inv.Inv.drewN | apply Go.Proofs.YtkbjjamaneiijaaDoor.Inv.Inv.drew)))).mono ?_); rintro e w7 ⟨rfl, hb⟩; refine ⟨_, rfl, ?_⟩; replace BK111 := bkb BK111 hb; replace HB := bst hb; (try clear hb); (try clear hb2); (try clear hk); (try clear hi)) | ((with_reducible refine gate_dst (N := 23) rfl ?_); refine gl (some 23) Tryd.func38 #[.string t113, .int .i64 32] ?_; (with_reducible refine (prefix_number.calls t113 32 t115 t116 _ A3.out (by with_reducible first | exact hInv | exact Go.Proofs.YtkbjjamaneiijaaDoor.Inv.Inv.below hInv HB.out | exact Go.Proofs.YtkbjjamaneiijaaDoor.Inv.Inv.below hInv bel | (repeat (first | exact hInv | exact Go.Proofs.YtkbjjamaneiijaaDoor.Inv.Inv.below hInv HB.out | exact Go.Proofs.YtkbjjamaneiijaaDoor.Inv.Inv.below hInv bel | apply Go.Proofs.YtkbjjamaneiijaaDoor.Inv.Inv.alloc | apply Go.Proofs.YtkbjjamaneiijaaDoor.Inv.Inv.drewN | apply Go.Proofs.YtkbjjamaneiijaaDoor.Inv.Inv.drew)))).mono ?_); rintro e w8 ⟨rfl, hb⟩; refine ⟨_, rfl, ?_⟩; replace BK111 := bkb BK111 hb; replace HB := bst hb; (try clear hb); (try clear hb2); (try clear hk); (try clear hi)) | ((with_reducible refine gate_dst (N := 27) rfl ?_); refine gl (some 27) Tryd.func39 #[.string t112, .string (⟨#[46]⟩ : ByteArray)] ?_; (with_reducible refine (strings_Split.calls t112 (⟨#[46]⟩ : ByteArray) t117 _ A4.out (by with_reducible first | exact hInv | exact Go.Proofs.YtkbjjamaneiijaaDoor.Inv.Inv.below hInv HB.out | exact Go.Proofs.YtkbjjamaneiijaaDoor.Inv.Inv.below hInv bel | (repeat (first | exact hInv | exact Go.Proofs.YtkbjjamaneiijaaDoor.Inv.Inv.below hInv HB.out | exact Go.Proofs.YtkbjjamaneiijaaDoor.Inv.Inv.below hInv bel | apply Go.Proofs.YtkbjjamaneiijaaDoor.Inv.Inv.alloc | apply Go.Proofs.YtkbjjamaneiijaaDoor.Inv.Inv.drewN | apply Go.Proofs.YtkbjjamaneiijaaDoor.Inv.Inv.drew)))).mono ?_); rintro e w9 ⟨v118, rfl, ho0, hb⟩; refine ⟨_, rfl, ?_⟩; have HO119 := Aside0.mk (Kd.R_lower ho0 (below_size bel)); replace BK111 := bkb BK111 hb; replace HB := bst hb; (try clear hb); (try clear hb2); (try clear hk); (try clear hi); (try clear ho0)))
 (try simp only [Act.put, List.setIfInBounds_toArray, List.set_cons_zero, List.set_cons_succ])
 go_cut [38] (fun v38 wc => ∃ (kq : Nat) (x38_4 : Bool), v38 = .bool x38_4 ∧ Aside0 (prefix_Parse.j0 kq t115 t117 x38_4 = some (r1, r2, r3)) ∧ Aside0 (kq ≤ k) ∧ Aside0 (Kd.R Kd.string 9 wc w.heap.size (fun _ => True) v118 t117) ∧ Aside0 (wc.heap[gb111]? = some (.cells #[.int .u32 0, .int .i64 0] 24 (0, 0))) ∧ Aside0 (Below w.heap.size w wc))
 case first =>
  have H := HC5.out
  clear HC5
  by_cases c10 : t114 = true
  ·subst c10
   have H1 : (if t116 = true then (prefix_Parse.j0 k t115 t117 ((t117.length : Int) != 4)) else (prefix_Parse.j0 k t115 t117 true)) = some (r1, r2, r3) := by rw [if_pos rfl] at H; exact H
   clear H
   have H := H1
   clear H1
   by_cases c11 : t116 = true
   ·subst c11
    have H1 : (prefix_Parse.j0 k t115 t117 ((t117.length : Int) != 4)) = some (r1, r2, r3) := by rw [if_pos rfl] at H; exact H
    clear H
    have H := H1
    clear H1
    have H' := Aside0.mk H
    clear H
    obtain ⟨Ao12, co12, eo12⟩ := Kd.R_slice HO119.out
    subst eo12
    go_wp2
    go_meet
    case rel => exact ⟨_, (((t117.length : Int) != 4)), (by first | rfl | (simp; done) | (simp [*]; done)), H', ⟨by first | omega | exact Nat.le_refl _⟩, ⟨by (with_reducible repeat (first | apply Kd.R_alloc | apply Kd.R_drewN | apply Kd.R_drew)); exact HO119.out⟩, ⟨bkq BK111⟩, ⟨by repeat (first | (with_reducible first | exact HB.out | apply below_alloc | apply pw_below_drewN | apply below_drew1 | refine below_set ?_ GE111.out) | exact HB.out)⟩⟩
   ·replace c11 := Bool.eq_false_iff.mpr c11
    subst c11
    have H1 : (prefix_Parse.j0 k t115 t117 true) = some (r1, r2, r3) := by rw [if_neg (show ¬ (false = true) by decide)] at H; exact H
    clear H
    have H := H1
    clear H1
    have H' := Aside0.mk H
    clear H
    go_wp2
    go_meet
    case rel => exact ⟨_, (true), (by first | rfl | (simp; done) | (simp [*]; done)), H', ⟨by first | omega | exact Nat.le_refl _⟩, ⟨by (with_reducible repeat (first | apply Kd.R_alloc | apply Kd.R_drewN | apply Kd.R_drew)); exact HO119.out⟩, ⟨bkq BK111⟩, ⟨by repeat (first | (with_reducible first | exact HB.out | apply below_alloc | apply pw_below_drewN | apply below_drew1 | refine below_set ?_ GE111.out) | exact HB.out)⟩⟩
  ·replace c10 := Bool.eq_false_iff.mpr c10
   subst c10
   have H1 : (prefix_Parse.j0 k t115 t117 true) = some (r1, r2, r3) := by rw [if_neg (show ¬ (false = true) by decide)] at H; exact H
   clear H
   have H := H1
   clear H1
   have H' := Aside0.mk H
   clear H
   go_wp2
   go_meet
   case rel => exact ⟨_, (true), (by first | rfl | (simp; done) | (simp [*]; done)), H', ⟨by first | omega | exact Nat.le_refl _⟩, ⟨by (with_reducible repeat (first | apply Kd.R_alloc | apply Kd.R_drewN | apply Kd.R_drew)); exact HO119.out⟩, ⟨bkq BK111⟩, ⟨by repeat (first | (with_reducible first | exact HB.out | apply below_alloc | apply pw_below_drewN | apply below_drew1 | refine below_set ?_ GE111.out) | exact HB.out)⟩⟩
 case rest =>
  clear HC5
  try clear c1
  try clear c2
  try clear p2
  try clear c3
  try clear c10
  try clear c11
  obtain ⟨kq, x38_4, rfl, HA, HJ4, HO_9, BK111, HB⟩ := hcut
  cases kq with
  | zero => exact absurd HA.out (by simp [prefix_Parse.j0])
  | succ kj4 =>
   have H := HA.out
   clear HA
   simp only [prefix_Parse.j0] at H
   by_cases c13 : x38_4 = true
   ·subst c13
    have H1 : (some (0, 0, false)) = some (r1, r2, r3) := by rw [if_pos rfl] at H; exact H
    clear H
    have H := H1
    clear H1
    simp only [Option.some.injEq, Prod.mk.injEq] at H
    obtain ⟨rfl, rfl, rfl⟩ := H
    obtain ⟨hcz14_0, hcz14_1, hfz14_0, hfz14_1⟩ := bc2 BK111
    go_wp2
    refine bodyPost_ret (results_ct rfl _ _ gb111 24 #[.int .u32 0, .int .i64 0] (0, 0) _ rfl (bkp BK111) Tryd.underlying24 rfl (by kernel_rfl)) rfl ?_
    exact ⟨by first | rfl | (simp [errW_none, errW_some] <;> rfl) | (simp [*, errW_none, errW_some] <;> rfl), by repeat (first | (with_reducible first | exact HB.out | apply below_alloc | apply pw_below_drewN | apply below_drew1 | refine below_set ?_ GE111.out) | exact HB.out)⟩
   ·replace c13 := Bool.eq_false_iff.mpr c13
    subst c13
    have H1 : (prefix_Parse.l0 kj4 t117 (t117.length : Int) 0 0 t115) = some (r1, r2, r3) := by rw [if_neg (show ¬ (false = true) by decide)] at H; exact H
    clear H
    have H := H1
    clear H1
    have H' := Aside0.mk H
    clear H
    go_wp2_with (first | ((with_reducible refine gate_dst (N := 10) rfl ?_); (try (refine gate_guard (by rfl) ?_; dsimp only)); refine bx 10 (cs := #[.int .u32 0, .int .i64 0]) (t := 24) (h := ?_); intro gb120 hg w15 hbox hb; have BK120 := Aside0.mk hbox; have GW120 : Aside0 (w.heap.size ≤ gb120) := bge hg; have GE120 : Aside0 (w.heap.size ≤ gb120) := bge hg; have NB111_120 := bne BK111 hg; have NB120_111 := bnf BK111 hg; replace HO_9 := Aside0.mk (Kd.R_below (kR HO_9) hb); replace BK111 := bkb BK111 hb; replace HB := bst hb; clear hb hbox hg; have hnb16 := NB120_111.out; have hnc16 := NB111_120.out; obtain ⟨hcz17_0, hcz17_1, hfz17_0, hfz17_1⟩ := bc2 BK120; obtain ⟨Ao18, co18, eo18⟩ := Kd.R_slice HO_9.out; subst eo18))
    go_loopg [44] kj4 (fun kq v44 w' => ∃ (x44_2 : Int) (x112000_2 : Int) (x112001_2 : Int) (x121000_2 : Int), v44 = .int .i64 x44_2 ∧ Aside0 (prefix_Parse.l0 kq t117 (t117.length : Int) x44_2 x121000_2 t115 = some (r1, r2, r3)) ∧ Aside0 (kq ≤ kj4) ∧ Aside0 (Kd.R Kd.string 9 w' w.heap.size (fun _ => True) (.slice Ao18 t117.length co18) t117) ∧ Aside0 (w'.heap[gb111]? = some (.cells #[.int .u32 x112000_2, .int .i64 x112001_2] 24 (0, 0))) ∧ Aside0 (w'.heap[gb120]? = some (.cells #[.int .u32 x121000_2, .int .i64 t115] 24 (0, 0))) ∧ Aside0 (Below w.heap.size w w'))
    case atStart => exact ⟨(0), (0), (0), (0), (by first | rfl | (simp; done) | (simp [*]; done)), H', ⟨Nat.le_refl _⟩, ⟨by (with_reducible repeat (first | apply Kd.R_alloc | apply Kd.R_drewN | apply Kd.R_drew)); exact Kd.R_mono (Kd.R_far (p := ⟨gb120, 1, none⟩) (Kd.R_far (p := ⟨gb120, 0, none⟩) (Kd.R_types HO_9.out BK120.out (by decide)) (fun _ hk => hk.2) (.int .u32 0)) (fun _ hk => hk.2) (.int .i64 t115)) (fun _ hk => trivial)⟩, ⟨bkq BK111⟩, ⟨bkp BK120⟩, ⟨by repeat (first | (with_reducible first | exact HB.out | apply below_alloc | apply pw_below_drewN | apply below_drew1 | refine below_set ?_ GE111.out | refine below_set ?_ GE120.out) | exact HB.out)⟩⟩
    case round =>
     clear H'
     try clear c1
     try clear c2
     try clear p2 p2
     try clear c3
     try clear c10
     try clear c11
     try clear c13
     try clear c16
     try clear hcz14_0 hcz14_1 hfz14_0 hfz14_1
     try clear hcz17_0 hcz17_1 hfz17_0 hfz17_1
     obtain ⟨x44_2, x112000_2, x112001_2, x121000_2, rfl, HA, HK2, HO_42, BK111, BK120, HB⟩ := hrel
     cases gk with
     | zero => exact absurd HA.out (by simp [prefix_Parse.l0])
     | succ k2 =>
      have H := HA.out
      clear HA
      simp only [prefix_Parse.l0] at H
      by_cases c19 : x44_2 < (t117.length : Int)
      ·rw [if_pos c19] at H
       have c19b0 : decide (x44_2 < (t117.length : Int)) = true := decide_eq_true c19
       clear c19
       by_cases c20 : 0 ≤ x44_2
       ·rw [if_pos c20] at H
        have c20b0 : decide (0 ≤ x44_2) = true := decide_eq_true c20
        clear c20
        by_cases c21 : x44_2 < (t117.length : Int)
        ·rw [if_pos c21] at H
         have c21b0 : decide (x44_2 < (t117.length : Int)) = true := decide_eq_true c21
         clear c21
         replace H := Option.bind_eq_some_iff.mp H
         obtain ⟨⟨t122, t123⟩, A220, H⟩ := H
         replace H : (if t123 = true then (prefix_Parse.l0 k2 t117 (t117.length : Int) (wrap64 (x44_2 + 1)) (Go.bits .or .u32 ((x121000_2 * 256) % 4294967296) ((t122) % 4294967296)) t115) else (some (0, 0, false))) = some (r1, r2, r3) := H
         have A22 := Aside0.mk A220
         clear A220
         by_cases c23 : t123 = true
         ·subst c23
          have H1 : (prefix_Parse.l0 k2 t117 (t117.length : Int) (wrap64 (x44_2 + 1)) (Go.bits .or .u32 ((x121000_2 * 256) % 4294967296) ((t122) % 4294967296)) t115) = some (r1, r2, r3) := by rw [if_pos rfl] at H; exact H
          clear H
          have H := H1
          clear H1
          have H' := Aside0.mk H
          clear H
          have p121 : 0 ≤ (x44_2 : Int) := of_decide_eq_true (by first | (with_reducible assumption) | assumption)
          have q121 : x44_2 < (t117.length : Int) := of_decide_eq_true (by first | (with_reducible assumption) | assumption)
          obtain ⟨ad121, e121, hx121_0⟩ := Kd.at_string (Kd.R_reads' HO_42.out).2.2 x44_2 p121 q121
          cases e121
          replace p121 := eq_true p121
          replace q121 := eq_true q121
          go_wp2_with (first | ((with_reducible refine gate_dst (N := 50) rfl ?_); refine gl (some 50) Tryd.func38 #[.string (rdOf ByteArray.empty t117 x44_2), .int .i64 255] ?_; (with_reducible refine (prefix_number.calls (rdOf ByteArray.empty t117 x44_2) 255 t122 true _ A22.out (by with_reducible first | exact hInv | exact Go.Proofs.YtkbjjamaneiijaaDoor.Inv.Inv.below hInv HB.out | exact Go.Proofs.YtkbjjamaneiijaaDoor.Inv.Inv.below hInv bel | (repeat (first | exact hInv | exact Go.Proofs.YtkbjjamaneiijaaDoor.Inv.Inv.below hInv HB.out | exact Go.Proofs.YtkbjjamaneiijaaDoor.Inv.Inv.below hInv bel | apply Go.Proofs.YtkbjjamaneiijaaDoor.Inv.Inv.alloc | apply Go.Proofs.YtkbjjamaneiijaaDoor.Inv.Inv.drewN | apply Go.Proofs.YtkbjjamaneiijaaDoor.Inv.Inv.drew)))).mono ?_); rintro e w24 ⟨rfl, hb⟩; refine ⟨_, rfl, ?_⟩; replace HO_42 := Aside0.mk (Kd.R_below (kR HO_42) hb); replace BK111 := bkb BK111 hb; replace BK120 := bkb BK120 hb; replace HB := bst hb; (try clear hb); (try clear hb2); (try clear hk); (try clear hi); have hnb25 := NB120_111.out; have hnc25 := NB111_120.out; obtain ⟨hcz26_0, hcz26_1, hfz26_0, hfz26_1⟩ := bc2 BK120))
          go_roundg k2
          case measure => have := HJ4.out; have := HK2.out; omega
          case rel => exact ⟨(wrap64 (x44_2 + 1)), (x112000_2), (x112001_2), (Go.bits .or .u32 ((x121000_2 * 256) % 4294967296) ((t122) % 4294967296)), (by first | rfl | (simp; done) | (simp [*]; done)), H', ⟨by have := HJ4.out; have := HK2.out; omega⟩, ⟨by (with_reducible repeat (first | apply Kd.R_alloc | apply Kd.R_drewN | apply Kd.R_drew)); exact Kd.R_mono (Kd.R_far (p := ⟨gb120, 0, none⟩) (Kd.R_types HO_42.out BK120.out (by decide)) (fun _ hk => hk.2) (.int .u32 (Go.bits .or .u32 ((x121000_2 * 256) % 4294967296) ((t122) % 4294967296)))) (fun _ hk => trivial)⟩, ⟨bkq BK111⟩, ⟨bkp BK120⟩, ⟨by repeat (first | (with_reducible first | exact HB.out | apply below_alloc | apply pw_below_drewN | apply below_drew1 | refine below_set ?_ GE111.out | refine below_set ?_ GE120.out) | exact HB.out)⟩⟩
         ·replace c23 := Bool.eq_false_iff.mpr c23
          subst c23
          have H1 : (some (0, 0, false)) = some (r1, r2, r3) := by rw [if_neg (show ¬ (false = true) by decide)] at H; exact H
          clear H
          have H := H1
          clear H1
          simp only [Option.some.injEq, Prod.mk.injEq] at H
          obtain ⟨rfl, rfl, rfl⟩ := H
          have p121 : 0 ≤ (x44_2 : Int) := of_decide_eq_true (by first | (with_reducible assumption) | assumption)
          have q121 : x44_2 < (t117.length : Int) := of_decide_eq_true (by first | (with_reducible assumption) | assumption)
          obtain ⟨ad121, e121, hx121_0⟩ := Kd.at_string (Kd.R_reads' HO_42.out).2.2 x44_2 p121 q121
          cases e121
          replace p121 := eq_true p121
          replace q121 := eq_true q121
          go_wp2_with (first | ((with_reducible refine gate_dst (N := 50) rfl ?_); refine gl (some 50) Tryd.func38 #[.string (rdOf ByteArray.empty t117 x44_2), .int .i64 255] ?_; (with_reducible refine (prefix_number.calls (rdOf ByteArray.empty t117 x44_2) 255 t122 false _ A22.out (by with_reducible first | exact hInv | exact Go.Proofs.YtkbjjamaneiijaaDoor.Inv.Inv.below hInv HB.out | exact Go.Proofs.YtkbjjamaneiijaaDoor.Inv.Inv.below hInv bel | (repeat (first | exact hInv | exact Go.Proofs.YtkbjjamaneiijaaDoor.Inv.Inv.below hInv HB.out | exact Go.Proofs.YtkbjjamaneiijaaDoor.Inv.Inv.below hInv bel | apply Go.Proofs.YtkbjjamaneiijaaDoor.Inv.Inv.alloc | apply Go.Proofs.YtkbjjamaneiijaaDoor.Inv.Inv.drewN | apply Go.Proofs.YtkbjjamaneiijaaDoor.Inv.Inv.drew)))).mono ?_); rintro e w27 ⟨rfl, hb⟩; refine ⟨_, rfl, ?_⟩; replace HO_42 := Aside0.mk (Kd.R_below (kR HO_42) hb); replace BK111 := bkb BK111 hb; replace BK120 := bkb BK120 hb; replace HB := bst hb; (try clear hb); (try clear hb2); (try clear hk); (try clear hi); have hnb28 := NB111_120.out; have hnc28 := NB120_111.out; obtain ⟨hcz29_0, hcz29_1, hfz29_0, hfz29_1⟩ := bc2 BK111))
          refine bodyPost_ret (results_ct rfl _ _ gb111 24 #[.int .u32 0, .int .i64 0] (0, 0) _ rfl (bkp BK111) Tryd.underlying24 rfl (by kernel_rfl)) rfl ?_
          exact ⟨by first | rfl | (simp [errW_none, errW_some] <;> rfl) | (simp [*, errW_none, errW_some] <;> rfl), by repeat (first | (with_reducible first | exact HB.out | apply below_alloc | apply pw_below_drewN | apply below_drew1 | refine below_set ?_ GE111.out | refine below_set ?_ GE120.out) | exact HB.out)⟩
        ·rw [if_neg c21] at H
         exact absurd H (by simp)
       ·rw [if_neg c20] at H
        exact absurd H (by simp)
      ·rw [if_neg c19] at H
       have c19b0 : decide (x44_2 < (t117.length : Int)) = false := decide_eq_false c19
       clear c19
       replace H := Option.bind_eq_some_iff.mp H
       obtain ⟨t124, A300, H⟩ := H
       replace H : (if t124 = true then (some (x121000_2, t115, true)) else (some (0, 0, false))) = some (r1, r2, r3) := H
       have A30 := Aside0.mk A300
       clear A300
       by_cases c31 : t124 = true
       ·subst c31
        have H1 : (some (x121000_2, t115, true)) = some (r1, r2, r3) := by rw [if_pos rfl] at H; exact H
        clear H
        have H := H1
        clear H1
        simp only [Option.some.injEq, Prod.mk.injEq] at H
        obtain ⟨rfl, rfl, rfl⟩ := H
        have hnb32 := NB120_111.out
        have hnc32 := NB111_120.out
        obtain ⟨hcz33_0, hcz33_1, hfz33_0, hfz33_1⟩ := bc2 BK120
        go_wp2_with (first | ((with_reducible refine gate_dst (N := 65) rfl ?_); refine gl (some 65) Tryd.func16 #[.agg #[.int .u32 x121000_2, .int .i64 t115]] ?_; (with_reducible refine (prefix_May.calls x121000_2 t115 true _ A30.out).mono ?_); rintro e w34 ⟨rfl, hb⟩; refine ⟨_, rfl, ?_⟩; replace HO_42 := Aside0.mk (Kd.R_below (kR HO_42) hb); replace BK111 := bkb BK111 hb; replace BK120 := bkb BK120 hb; replace HB := bst hb; (try clear hb); (try clear hb2); (try clear hk); (try clear hi); obtain ⟨hcz35_0, hcz35_1, hfz35_0, hfz35_1⟩ := bc2 BK120; obtain ⟨hcz36_0, hcz36_1, hfz36_0, hfz36_1⟩ := bc2 BK111))
        refine bodyPost_ret (results_ct rfl _ _ gb111 24 #[.int .u32 x121000_2, .int .i64 t115] (0, 0) _ rfl (bkp BK111) Tryd.underlying24 rfl (by kernel_rfl)) rfl ?_
        exact ⟨by first | rfl | (simp [errW_none, errW_some] <;> rfl) | (simp [*, errW_none, errW_some] <;> rfl), by repeat (first | (with_reducible first | exact HB.out | apply below_alloc | apply pw_below_drewN | apply below_drew1 | refine below_set ?_ GE111.out | refine below_set ?_ GE120.out) | exact HB.out)⟩
       ·replace c31 := Bool.eq_false_iff.mpr c31
        subst c31
        have H1 : (some (0, 0, false)) = some (r1, r2, r3) := by rw [if_neg (show ¬ (false = true) by decide)] at H; exact H
        clear H
        have H := H1
        clear H1
        simp only [Option.some.injEq, Prod.mk.injEq] at H
        obtain ⟨rfl, rfl, rfl⟩ := H
        have hnb37 := NB120_111.out
        have hnc37 := NB111_120.out
        obtain ⟨hcz38_0, hcz38_1, hfz38_0, hfz38_1⟩ := bc2 BK120
        go_wp2_with (first | ((with_reducible refine gate_dst (N := 65) rfl ?_); refine gl (some 65) Tryd.func16 #[.agg #[.int .u32 x121000_2, .int .i64 t115]] ?_; (with_reducible refine (prefix_May.calls x121000_2 t115 false _ A30.out).mono ?_); rintro e w39 ⟨rfl, hb⟩; refine ⟨_, rfl, ?_⟩; replace HO_42 := Aside0.mk (Kd.R_below (kR HO_42) hb); replace BK111 := bkb BK111 hb; replace BK120 := bkb BK120 hb; replace HB := bst hb; (try clear hb); (try clear hb2); (try clear hk); (try clear hi); obtain ⟨hcz40_0, hcz40_1, hfz40_0, hfz40_1⟩ := bc2 BK111))
        refine bodyPost_ret (results_ct rfl _ _ gb111 24 #[.int .u32 0, .int .i64 0] (0, 0) _ rfl (bkp BK111) Tryd.underlying24 rfl (by kernel_rfl)) rfl ?_
        exact ⟨by first | rfl | (simp [errW_none, errW_some] <;> rfl) | (simp [*, errW_none, errW_some] <;> rfl), by repeat (first | (with_reducible first | exact HB.out | apply below_alloc | apply pw_below_drewN | apply below_drew1 | refine below_set ?_ GE111.out | refine below_set ?_ GE120.out) | exact HB.out)⟩

end Go.Proofs.YtkbjjamaneiijaaDoor.PPre
