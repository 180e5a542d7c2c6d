-- Written by wip/xprint.py of this work: the printer of the kit, with contracts of this work beside it, shortened.
import Derived.Test.YthodilggomedgaaDoorShort
import Derived.Test.YthodilggomedgaaDoorPTkx0
import Derived.Test.YthodilggomedgaaDoorPTkx16
import Derived.Test.YthodilggomedgaaDoorPTkx17
import Derived.Test.YthodilggomedgaaDoorPTkx18
namespace Go.Proofs.YthodilggomedgaaDoor.PTk
open Go.RowKit Go.Proofs.YthodilggomedgaaDoor.Short Go.Proofs.YthodilggomedgaaDoorW.PrintWords Go.Proofs.YthodilggomedgaaDoorW.PrintLast Go.Proofs.YthodilggomedgaaDoorW.PrintMore
attribute [local go_sem] max2_int min2_int max_two min_two max_three min_three max_four min_four   -- for this text's walks alone
set_option linter.unusedVariables false
set_option linter.unusedSimpArgs false

/-! ### maquettelaw06_TokenPlaces: function 4 -/
def maquettelaw06_TokenPlaces.l0 : Nat → ByteArray → List (S33) → Int → List (S33) → Int → Int → Option (Bool)
 | 0, _, _, _, _, _, _ => none
 | k + 1, x0, x3, x5, x32, x33, x34 => if x34 < x33 then (if 0 ≤ x34 then (if x34 < (x32.length : Int) then (if ((rd_T33 x32 x34).f4) < x5 then (some false) else (if (wrap64 (((rd_T33 x32 x34).f4) + (((rd_T33 x32 x34).f1).size : Int))) > (x0.size : Int) then (some false) else (if 0 ≤ ((rd_T33 x32 x34).f4) then (if ((rd_T33 x32 x34).f4) ≤ (wrap64 (((rd_T33 x32 x34).f4) + (((rd_T33 x32 x34).f1).size : Int))) then (if (wrap64 (((rd_T33 x32 x34).f4) + (((rd_T33 x32 x34).f1).size : Int))) ≤ (x0.size : Int) then (if (x0.extract (((rd_T33 x32 x34).f4) : Int).toNat ((wrap64 (((rd_T33 x32 x34).f4) + (((rd_T33 x32 x34).f1).size : Int))) : Int).toNat).toList = ((rd_T33 x32 x34).f1).toList then (maquettelaw06_TokenPlaces.l0 k x0 x3 (wrap64 (((rd_T33 x32 x34).f4) + (((rd_T33 x32 x34).f1).size : Int))) x32 x33 (wrap64 (x34 + 1))) else (some false)) else (none)) else (none)) else (none)))) else (none)) else (none)) else (if (x3.length : Int) > 0 then (if 0 ≤ (wrap64 ((x3.length : Int) - 1)) then (if (wrap64 ((x3.length : Int) - 1)) < (x3.length : Int) then (some (((rd_T33 x3 (wrap64 ((x3.length : Int) - 1))).f4) == (x0.size : Int))) else (none)) else (none)) else (some false))
def maquettelaw06_TokenPlaces.f (k : Nat) (a0 : ByteArray) : Option (Bool) := (maquettelaw06_awake.f k).bind fun t167 => (if t167 = true then ((token_Cut.f k a0).bind fun bt168 => (if bt168.2.isNone = true then (maquettelaw06_TokenPlaces.l0 k a0 bt168.1 0 bt168.1 (bt168.1.length : Int) 0) else (if (bt168.1.length : Int) = 0 then ((api_Place.f (some (bt168.2.getD 0))).bind fun t176 => (if t176 ≥ 0 then ((api_Place.f (some (bt168.2.getD 0))).bind fun t177 => (some (decide (t177 ≤ (a0.size : Int))))) else (some false))) else (some false)))) else (some false))
theorem maquettelaw06_TokenPlaces.mono_l : ∀ k, (∀ y0 y1 y2 y3 y4 y5, LeO (maquettelaw06_TokenPlaces.l0 k y0 y1 y2 y3 y4 y5) (maquettelaw06_TokenPlaces.l0 (k + 1) y0 y1 y2 y3 y4 y5))
 | 0 => fun _ _ _ _ _ _ r h => by simp [maquettelaw06_TokenPlaces.l0] at h
 | k + 1 => by
  have ih0 := maquettelaw06_TokenPlaces.mono_l k
  ·intro y0 y1 y2 y3 y4 y5
   unfold maquettelaw06_TokenPlaces.l0
   repeat' first
   | (with_reducible exact ih0 _ _ _ _ _ _)
   | (with_reducible exact maquettelaw06_awake.mono _)
   | (with_reducible exact token_Cut.mono _ _)
   | (with_reducible exact LeO.refl _)
   | (with_reducible exact LeO.none _)
   | (with_reducible refine LeO.ite ?_ ?_)
   | (with_reducible refine LeO.bind ?_ (fun _ => ?_))
   | exact ih0 _ _ _ _ _ _
   | exact maquettelaw06_awake.mono _
   | exact token_Cut.mono _ _
   | exact LeO.none _
   | refine LeO.ite ?_ ?_
   | refine LeO.bind ?_ (fun _ => ?_)
theorem maquettelaw06_TokenPlaces.mono : ∀ a0 k, LeO (maquettelaw06_TokenPlaces.f k a0) (maquettelaw06_TokenPlaces.f (k + 1) a0) := by
 intro a0 k
 have ih0 := maquettelaw06_TokenPlaces.mono_l k
 unfold maquettelaw06_TokenPlaces.f
 repeat' first
   | (with_reducible exact ih0 _ _ _ _ _ _)
   | (with_reducible exact maquettelaw06_awake.mono _)
   | (with_reducible exact token_Cut.mono _ _)
   | (with_reducible exact LeO.refl _)
   | (with_reducible exact LeO.none _)
   | (with_reducible refine LeO.ite ?_ ?_)
   | (with_reducible refine LeO.bind ?_ (fun _ => ?_))
   | exact ih0 _ _ _ _ _ _
   | exact maquettelaw06_awake.mono _
   | exact token_Cut.mono _ _
   | exact LeO.none _
   | refine LeO.ite ?_ ?_
   | refine LeO.bind ?_ (fun _ => ?_)
set_option maxHeartbeats 8000000 in
set_option maxRecDepth 100000 in
theorem maquettelaw06_TokenPlaces.calls (k : Nat) (a0 : ByteArray) (r : Bool) (w : World) (h : maquettelaw06_TokenPlaces.f k a0 = some r) (hInv : Go.Proofs.YthodilggomedgaaDoor.InvE.Inv w) :
  Calls Tryd.prog 4 #[.string a0] w fun e w' => e = .returned (.bool r) ∧ Below w.heap.size w w' := by
 have hu33 := Tryd.underlying33
 have hu25 := Tryd.underlying25
 have HB := Aside0.mk (Below.refl w.heap.size w)
 have H : ((maquettelaw06_awake.f k).bind fun t167 => (if t167 = true then ((token_Cut.f k a0).bind fun bt168 => (if bt168.2.isNone = true then (maquettelaw06_TokenPlaces.l0 k a0 bt168.1 0 bt168.1 (bt168.1.length : Int) 0) else (if (bt168.1.length : Int) = 0 then ((api_Place.f (some (bt168.2.getD 0))).bind fun t176 => (if t176 ≥ 0 then ((api_Place.f (some (bt168.2.getD 0))).bind fun t177 => (some (decide (t177 ≤ (a0.size : Int))))) else (some false))) else (some false)))) else (some false))) = some r := h
 clear h
 replace H := Option.bind_eq_some_iff.mp H
 obtain ⟨t167, A20, H⟩ := H
 replace H : (if t167 = true then ((token_Cut.f k a0).bind fun bt168 => (if bt168.2.isNone = true then (maquettelaw06_TokenPlaces.l0 k a0 bt168.1 0 bt168.1 (bt168.1.length : Int) 0) else (if (bt168.1.length : Int) = 0 then ((api_Place.f (some (bt168.2.getD 0))).bind fun t176 => (if t176 ≥ 0 then ((api_Place.f (some (bt168.2.getD 0))).bind fun t177 => (some (decide (t177 ≤ (a0.size : Int))))) else (some false))) else (some false)))) else (some false)) = some r := H
 have A2 := Aside0.mk A20
 clear A20
 by_cases c3 : t167 = true
 ·subst c3
  have H1 : ((token_Cut.f k a0).bind fun bt168 => (if bt168.2.isNone = true then (maquettelaw06_TokenPlaces.l0 k a0 bt168.1 0 bt168.1 (bt168.1.length : Int) 0) else (if (bt168.1.length : Int) = 0 then ((api_Place.f (some (bt168.2.getD 0))).bind fun t176 => (if t176 ≥ 0 then ((api_Place.f (some (bt168.2.getD 0))).bind fun t177 => (some (decide (t177 ≤ (a0.size : Int))))) else (some false))) else (some false)))) = some r := by rw [if_pos rfl] at H; exact H
  clear H
  have H := H1
  clear H1
  replace H := Option.bind_eq_some_iff.mp H
  obtain ⟨⟨t168, t169⟩, A40, H⟩ := H
  replace H : (if t169.isNone = true then (maquettelaw06_TokenPlaces.l0 k a0 t168 0 t168 (t168.length : Int) 0) else (if (t168.length : Int) = 0 then ((api_Place.f (some (t169.getD 0))).bind fun t176 => (if t176 ≥ 0 then ((api_Place.f (some (t169.getD 0))).bind fun t177 => (some (decide (t177 ≤ (a0.size : Int))))) else (some false))) else (some false))) = some r := H
  have A4 := Aside0.mk A40
  clear A40
  rcases t169 with _ | q172
  ·have H1 : (maquettelaw06_TokenPlaces.l0 k a0 t168 0 t168 (t168.length : Int) 0) = some r := by rw [if_pos (show (none : Option Int).isNone = true by rfl)] at H; exact H
   clear H
   have H := H1
   clear H1
   try simp only [errW_none, errW_some]
   have H' := Aside0.mk H
   clear H
   go_enter Tryd.func4, Tryd.ntmps4
   go_wp2_with (first | (go_at_call 8; (with_reducible refine (maquettelaw06_awake.calls k  true _ A2.out (Go.Proofs.YthodilggomedgaaDoor.InvE.ivb hInv)).mono ?_); rintro e w5 ⟨rfl, hb⟩; replace HB := bst hb; (try clear hb); (try clear hb2); (try clear hk); (try clear hi)) | (go_at_call 9; (with_reducible refine (token_Cut.calls k a0 t168 none _ A4.out (Go.Proofs.YthodilggomedgaaDoor.InvE.ivb hInv)).mono ?_); rintro e w6 ⟨v170, rfl, ho0, hb⟩; have HO171 := Aside0.mk (Kd.R_lower ho0 (below_size bel)); replace HB := bst hb; (try clear hb); (try clear hb2); (try clear hk); (try clear hi); (try clear ho0); (try simp only [errW_none, errW_some]); obtain ⟨Ao7, co7, eo7⟩ := Kd.R_slice HO171.out; subst eo7))
   repeat (go_quiet (first | (go_at_call 8; (with_reducible refine (maquettelaw06_awake.calls k  true _ A2.out (Go.Proofs.YthodilggomedgaaDoor.InvE.ivb hInv)).mono ?_); rintro e w5 ⟨rfl, hb⟩; replace HB := bst hb; (try clear hb); (try clear hb2); (try clear hk); (try clear hi)) | (go_at_call 9; (with_reducible refine (token_Cut.calls k a0 t168 none _ A4.out (Go.Proofs.YthodilggomedgaaDoor.InvE.ivb hInv)).mono ?_); rintro e w6 ⟨v170, rfl, ho0, hb⟩; have HO171 := Aside0.mk (Kd.R_lower ho0 (below_size bel)); replace HB := bst hb; (try clear hb); (try clear hb2); (try clear hk); (try clear hi); (try clear ho0); (try simp only [errW_none, errW_some]); obtain ⟨Ao7, co7, eo7⟩ := Kd.R_slice HO171.out; subst eo7)); try go_wp2_with (first | (go_at_call 8; (with_reducible refine (maquettelaw06_awake.calls k  true _ A2.out (Go.Proofs.YthodilggomedgaaDoor.InvE.ivb hInv)).mono ?_); rintro e w5 ⟨rfl, hb⟩; replace HB := bst hb; (try clear hb); (try clear hb2); (try clear hk); (try clear hi)) | (go_at_call 9; (with_reducible refine (token_Cut.calls k a0 t168 none _ A4.out (Go.Proofs.YthodilggomedgaaDoor.InvE.ivb hInv)).mono ?_); rintro e w6 ⟨v170, rfl, ho0, hb⟩; have HO171 := Aside0.mk (Kd.R_lower ho0 (below_size bel)); replace HB := bst hb; (try clear hb); (try clear hb2); (try clear hk); (try clear hi); (try clear ho0); (try simp only [errW_none, errW_some]); obtain ⟨Ao7, co7, eo7⟩ := Kd.R_slice HO171.out; subst eo7)))
   go_loopg [5, 34] k (fun kq v5 v34 w' => ∃ (x5_1 : Int) (x34_1 : Int), v5 = .int .i64 x5_1 ∧ v34 = .int .i64 x34_1 ∧ Aside0 (maquettelaw06_TokenPlaces.l0 kq a0 t168 x5_1 t168 (t168.length : Int) x34_1 = some r) ∧ Aside0 (kq ≤ k) ∧ Aside0 (Kd.R k33 33 w' w.heap.size (fun _ => True) (.slice Ao7 t168.length co7) t168) ∧ Aside0 (Kd.R k33 33 w' w.heap.size (fun _ => True) (.slice Ao7 t168.length co7) t168) ∧ Aside0 (Below w.heap.size w w'))
   case atStart => exact ⟨(0), (0), (by first | rfl | (simp; done) | (simp [*]; done)), (by first | rfl | (simp; done) | (simp [*]; done)), H', ⟨Nat.le_refl _⟩, ⟨by (with_reducible repeat (first | apply Kd.R_alloc | apply Kd.R_drewN | apply Kd.R_drew)); exact HO171.out⟩, ⟨by (with_reducible repeat (first | apply Kd.R_alloc | apply Kd.R_drewN | apply Kd.R_drew)); exact HO171.out⟩, ⟨by repeat (first | (with_reducible first | exact HB.out | apply below_alloc | apply pw_below_drewN | apply below_drew1) | exact HB.out)⟩⟩
   case round =>
    clear H'
    try clear q1
    try clear p2
    try clear c3
    try clear c4
    try clear q172
    obtain ⟨x5_1, x34_1, rfl, rfl, HA, HK1, HO_3, HO_32, HB⟩ := hrel
    cases gk with
    | zero => exact absurd HA.out (by simp [maquettelaw06_TokenPlaces.l0])
    | succ k1 =>
     have H := HA.out
     clear HA
     simp only [maquettelaw06_TokenPlaces.l0] at H
     by_cases c8 : x34_1 < (t168.length : Int)
     ·rw [if_pos c8] at H
      have c8b0 := decide_eq_true c8
      clear c8
      by_cases c9 : 0 ≤ x34_1
      ·rw [if_pos c9] at H
       have c9b0 := decide_eq_true c9
       clear c9
       by_cases c10 : x34_1 < (t168.length : Int)
       ·rw [if_pos c10] at H
        have c10b0 := decide_eq_true c10
        clear c10
        by_cases c11 : ((rd_T33 t168 x34_1).f4) < x5_1
        ·rw [if_pos c11] at H
         have c11b0 := decide_eq_true c11
         clear c11
         obtain rfl := Option.some.inj H
         have p173 : 0 ≤ (x34_1 : Int) := of_decide_eq_true (by first | (with_reducible assumption) | assumption)
         have q173 : x34_1 < (t168.length : Int) := of_decide_eq_true (by first | (with_reducible assumption) | assumption)
         obtain ⟨ad173, e173, hx173_0, hx173_1, hx173_2, hx173_3, hx173_4, hx173_5⟩ := at_T33 (Kd.R_reads' HO_32.out).2.2 x34_1 p173 q173
         cases e173
         replace p173 := eq_true p173
         replace q173 := eq_true q173
         go_wp2_with (first | ((with_reducible refine gate_dst (N := 7) rfl ?_); (try (refine gate_guard (by rfl) ?_; dsimp only)); refine bx 7 (cs := #[.int .i64 0, .string (⟨#[]⟩ : ByteArray), .int .i64 0, .int .u32 0, .int .i64 0, .int .i64 0]) (t := 33) (h := ?_); intro gb174 hg w12 hbox hb; have BK174 := Aside0.mk hbox; have GW174 : Aside0 (w.heap.size ≤ gb174) := bge hg; have GE174 : Aside0 (w.heap.size ≤ gb174) := bge hg; replace HO_3 := Aside0.mk (Kd.R_below (Kd.R_elderB (kR HO_3) gb174 (Nat.le_of_eq hg.symm)) hb); replace HO_32 := Aside0.mk (Kd.R_below (Kd.R_elderB (kR HO_32) gb174 (Nat.le_of_eq hg.symm)) hb); replace HB := bst hb; clear hb hbox hg; obtain ⟨hcz13_0, hcz13_1, hcz13_2, hcz13_3, hcz13_4, hcz13_5, hfz13_0, hfz13_1, hfz13_2, hfz13_3, hfz13_4, hfz13_5⟩ := bc6 BK174))
         repeat (go_quiet (first | ((with_reducible refine gate_dst (N := 7) rfl ?_); (try (refine gate_guard (by rfl) ?_; dsimp only)); refine bx 7 (cs := #[.int .i64 0, .string (⟨#[]⟩ : ByteArray), .int .i64 0, .int .u32 0, .int .i64 0, .int .i64 0]) (t := 33) (h := ?_); intro gb174 hg w12 hbox hb; have BK174 := Aside0.mk hbox; have GW174 : Aside0 (w.heap.size ≤ gb174) := bge hg; have GE174 : Aside0 (w.heap.size ≤ gb174) := bge hg; replace HO_3 := Aside0.mk (Kd.R_below (Kd.R_elderB (kR HO_3) gb174 (Nat.le_of_eq hg.symm)) hb); replace HO_32 := Aside0.mk (Kd.R_below (Kd.R_elderB (kR HO_32) gb174 (Nat.le_of_eq hg.symm)) hb); replace HB := bst hb; clear hb hbox hg; obtain ⟨hcz13_0, hcz13_1, hcz13_2, hcz13_3, hcz13_4, hcz13_5, hfz13_0, hfz13_1, hfz13_2, hfz13_3, hfz13_4, hfz13_5⟩ := bc6 BK174)); try go_wp2_with (first | ((with_reducible refine gate_dst (N := 7) rfl ?_); (try (refine gate_guard (by rfl) ?_; dsimp only)); refine bx 7 (cs := #[.int .i64 0, .string (⟨#[]⟩ : ByteArray), .int .i64 0, .int .u32 0, .int .i64 0, .int .i64 0]) (t := 33) (h := ?_); intro gb174 hg w12 hbox hb; have BK174 := Aside0.mk hbox; have GW174 : Aside0 (w.heap.size ≤ gb174) := bge hg; have GE174 : Aside0 (w.heap.size ≤ gb174) := bge hg; replace HO_3 := Aside0.mk (Kd.R_below (Kd.R_elderB (kR HO_3) gb174 (Nat.le_of_eq hg.symm)) hb); replace HO_32 := Aside0.mk (Kd.R_below (Kd.R_elderB (kR HO_32) gb174 (Nat.le_of_eq hg.symm)) hb); replace HB := bst hb; clear hb hbox hg; obtain ⟨hcz13_0, hcz13_1, hcz13_2, hcz13_3, hcz13_4, hcz13_5, hfz13_0, hfz13_1, hfz13_2, hfz13_3, hfz13_4, hfz13_5⟩ := bc6 BK174)))
         go_ret
         exact ⟨by first | rfl | (simp [errW_none, errW_some] <;> rfl) | (simp [*, errW_none, errW_some] <;> rfl), by repeat (first | (with_reducible first | exact HB.out | apply below_alloc | apply pw_below_drewN | apply below_drew1 | refine below_set ?_ GE174.out) | exact HB.out)⟩
        ·rw [if_neg c11] at H
         have c11b0 := decide_eq_false c11
         clear c11
         by_cases c14 : (wrap64 (((rd_T33 t168 x34_1).f4) + (((rd_T33 t168 x34_1).f1).size : Int))) > (a0.size : Int)
         ·rw [if_pos c14] at H
          have c14b0 : decide ((a0.size : Int) < (wrap64 (((rd_T33 t168 x34_1).f4) + (((rd_T33 t168 x34_1).f1).size : Int)))) = true := decide_eq_true c14
          clear c14
          obtain rfl := Option.some.inj H
          have p173 : 0 ≤ (x34_1 : Int) := of_decide_eq_true (by first | (with_reducible assumption) | assumption)
          have q173 : x34_1 < (t168.length : Int) := of_decide_eq_true (by first | (with_reducible assumption) | assumption)
          obtain ⟨ad173, e173, hx173_0, hx173_1, hx173_2, hx173_3, hx173_4, hx173_5⟩ := at_T33 (Kd.R_reads' HO_32.out).2.2 x34_1 p173 q173
          cases e173
          replace p173 := eq_true p173
          replace q173 := eq_true q173
          go_wp2_with (first | ((with_reducible refine gate_dst (N := 7) rfl ?_); (try (refine gate_guard (by rfl) ?_; dsimp only)); refine bx 7 (cs := #[.int .i64 0, .string (⟨#[]⟩ : ByteArray), .int .i64 0, .int .u32 0, .int .i64 0, .int .i64 0]) (t := 33) (h := ?_); intro gb174 hg w15 hbox hb; have BK174 := Aside0.mk hbox; have GW174 : Aside0 (w.heap.size ≤ gb174) := bge hg; have GE174 : Aside0 (w.heap.size ≤ gb174) := bge hg; replace HO_3 := Aside0.mk (Kd.R_below (Kd.R_elderB (kR HO_3) gb174 (Nat.le_of_eq hg.symm)) hb); replace HO_32 := Aside0.mk (Kd.R_below (Kd.R_elderB (kR HO_32) gb174 (Nat.le_of_eq hg.symm)) hb); replace HB := bst hb; clear hb hbox hg; obtain ⟨hcz16_0, hcz16_1, hcz16_2, hcz16_3, hcz16_4, hcz16_5, hfz16_0, hfz16_1, hfz16_2, hfz16_3, hfz16_4, hfz16_5⟩ := bc6 BK174))
          repeat (go_quiet (first | ((with_reducible refine gate_dst (N := 7) rfl ?_); (try (refine gate_guard (by rfl) ?_; dsimp only)); refine bx 7 (cs := #[.int .i64 0, .string (⟨#[]⟩ : ByteArray), .int .i64 0, .int .u32 0, .int .i64 0, .int .i64 0]) (t := 33) (h := ?_); intro gb174 hg w15 hbox hb; have BK174 := Aside0.mk hbox; have GW174 : Aside0 (w.heap.size ≤ gb174) := bge hg; have GE174 : Aside0 (w.heap.size ≤ gb174) := bge hg; replace HO_3 := Aside0.mk (Kd.R_below (Kd.R_elderB (kR HO_3) gb174 (Nat.le_of_eq hg.symm)) hb); replace HO_32 := Aside0.mk (Kd.R_below (Kd.R_elderB (kR HO_32) gb174 (Nat.le_of_eq hg.symm)) hb); replace HB := bst hb; clear hb hbox hg; obtain ⟨hcz16_0, hcz16_1, hcz16_2, hcz16_3, hcz16_4, hcz16_5, hfz16_0, hfz16_1, hfz16_2, hfz16_3, hfz16_4, hfz16_5⟩ := bc6 BK174)); try go_wp2_with (first | ((with_reducible refine gate_dst (N := 7) rfl ?_); (try (refine gate_guard (by rfl) ?_; dsimp only)); refine bx 7 (cs := #[.int .i64 0, .string (⟨#[]⟩ : ByteArray), .int .i64 0, .int .u32 0, .int .i64 0, .int .i64 0]) (t := 33) (h := ?_); intro gb174 hg w15 hbox hb; have BK174 := Aside0.mk hbox; have GW174 : Aside0 (w.heap.size ≤ gb174) := bge hg; have GE174 : Aside0 (w.heap.size ≤ gb174) := bge hg; replace HO_3 := Aside0.mk (Kd.R_below (Kd.R_elderB (kR HO_3) gb174 (Nat.le_of_eq hg.symm)) hb); replace HO_32 := Aside0.mk (Kd.R_below (Kd.R_elderB (kR HO_32) gb174 (Nat.le_of_eq hg.symm)) hb); replace HB := bst hb; clear hb hbox hg; obtain ⟨hcz16_0, hcz16_1, hcz16_2, hcz16_3, hcz16_4, hcz16_5, hfz16_0, hfz16_1, hfz16_2, hfz16_3, hfz16_4, hfz16_5⟩ := bc6 BK174)))
          go_ret
          exact ⟨by first | rfl | (simp [errW_none, errW_some] <;> rfl) | (simp [*, errW_none, errW_some] <;> rfl), by repeat (first | (with_reducible first | exact HB.out | apply below_alloc | apply pw_below_drewN | apply below_drew1 | refine below_set ?_ GE174.out) | exact HB.out)⟩
         ·rw [if_neg c14] at H
          have c14b0 : decide ((a0.size : Int) < (wrap64 (((rd_T33 t168 x34_1).f4) + (((rd_T33 t168 x34_1).f1).size : Int)))) = false := decide_eq_false c14
          clear c14
          by_cases c17 : 0 ≤ ((rd_T33 t168 x34_1).f4)
          ·rw [if_pos c17] at H
           have c17b0 := eq_true c17
           have c17b1 := decide_eq_true c17
           clear c17
           by_cases c18 : ((rd_T33 t168 x34_1).f4) ≤ (wrap64 (((rd_T33 t168 x34_1).f4) + (((rd_T33 t168 x34_1).f1).size : Int)))
           ·rw [if_pos c18] at H
            have c18b0 := eq_true c18
            have c18b1 := decide_eq_true c18
            by_cases c19 : (wrap64 (((rd_T33 t168 x34_1).f4) + (((rd_T33 t168 x34_1).f1).size : Int))) ≤ (a0.size : Int)
            ·rw [if_pos c19] at H
             have c19b0 := eq_true c19
             have c19b1 := decide_eq_true c19
             by_cases c20 : (a0.extract (((rd_T33 t168 x34_1).f4) : Int).toNat ((wrap64 (((rd_T33 t168 x34_1).f4) + (((rd_T33 t168 x34_1).f1).size : Int))) : Int).toNat).toList = ((rd_T33 t168 x34_1).f1).toList
             ·rw [if_pos c20] at H
              have c20b0 : ((a0.extract (((rd_T33 t168 x34_1).f4) : Int).toNat ((wrap64 (((rd_T33 t168 x34_1).f4) + (((rd_T33 t168 x34_1).f1).size : Int))) : Int).toNat).toList == ((rd_T33 t168 x34_1).f1).toList) = true := beq_iff_eq.mpr c20
              have c20b1 : ((a0.extract (((rd_T33 t168 x34_1).f4) : Int).toNat ((wrap64 (((rd_T33 t168 x34_1).f4) + (((rd_T33 t168 x34_1).f1).size : Int))) : Int).toNat).toList != ((rd_T33 t168 x34_1).f1).toList) = false := bne_eq_false_iff_eq.mpr c20
              clear c20
              have H' := Aside0.mk H
              clear H
              have p173 : 0 ≤ (x34_1 : Int) := of_decide_eq_true (by first | (with_reducible assumption) | assumption)
              have q173 : x34_1 < (t168.length : Int) := of_decide_eq_true (by first | (with_reducible assumption) | assumption)
              obtain ⟨ad173, e173, hx173_0, hx173_1, hx173_2, hx173_3, hx173_4, hx173_5⟩ := at_T33 (Kd.R_reads' HO_32.out).2.2 x34_1 p173 q173
              cases e173
              replace p173 := eq_true p173
              replace q173 := eq_true q173
              go_wp2_with (first | ((with_reducible refine gate_dst (N := 7) rfl ?_); (try (refine gate_guard (by rfl) ?_; dsimp only)); refine bx 7 (cs := #[.int .i64 0, .string (⟨#[]⟩ : ByteArray), .int .i64 0, .int .u32 0, .int .i64 0, .int .i64 0]) (t := 33) (h := ?_); intro gb174 hg w21 hbox hb; have BK174 := Aside0.mk hbox; have GW174 : Aside0 (w.heap.size ≤ gb174) := bge hg; have GE174 : Aside0 (w.heap.size ≤ gb174) := bge hg; replace HO_3 := Aside0.mk (Kd.R_below (Kd.R_elderB (kR HO_3) gb174 (Nat.le_of_eq hg.symm)) hb); replace HO_32 := Aside0.mk (Kd.R_below (Kd.R_elderB (kR HO_32) gb174 (Nat.le_of_eq hg.symm)) hb); replace HB := bst hb; clear hb hbox hg; obtain ⟨hcz22_0, hcz22_1, hcz22_2, hcz22_3, hcz22_4, hcz22_5, hfz22_0, hfz22_1, hfz22_2, hfz22_3, hfz22_4, hfz22_5⟩ := bc6 BK174))
              repeat (go_quiet (first | ((with_reducible refine gate_dst (N := 7) rfl ?_); (try (refine gate_guard (by rfl) ?_; dsimp only)); refine bx 7 (cs := #[.int .i64 0, .string (⟨#[]⟩ : ByteArray), .int .i64 0, .int .u32 0, .int .i64 0, .int .i64 0]) (t := 33) (h := ?_); intro gb174 hg w21 hbox hb; have BK174 := Aside0.mk hbox; have GW174 : Aside0 (w.heap.size ≤ gb174) := bge hg; have GE174 : Aside0 (w.heap.size ≤ gb174) := bge hg; replace HO_3 := Aside0.mk (Kd.R_below (Kd.R_elderB (kR HO_3) gb174 (Nat.le_of_eq hg.symm)) hb); replace HO_32 := Aside0.mk (Kd.R_below (Kd.R_elderB (kR HO_32) gb174 (Nat.le_of_eq hg.symm)) hb); replace HB := bst hb; clear hb hbox hg; obtain ⟨hcz22_0, hcz22_1, hcz22_2, hcz22_3, hcz22_4, hcz22_5, hfz22_0, hfz22_1, hfz22_2, hfz22_3, hfz22_4, hfz22_5⟩ := bc6 BK174)); try go_wp2_with (first | ((with_reducible refine gate_dst (N := 7) rfl ?_); (try (refine gate_guard (by rfl) ?_; dsimp only)); refine bx 7 (cs := #[.int .i64 0, .string (⟨#[]⟩ : ByteArray), .int .i64 0, .int .u32 0, .int .i64 0, .int .i64 0]) (t := 33) (h := ?_); intro gb174 hg w21 hbox hb; have BK174 := Aside0.mk hbox; have GW174 : Aside0 (w.heap.size ≤ gb174) := bge hg; have GE174 : Aside0 (w.heap.size ≤ gb174) := bge hg; replace HO_3 := Aside0.mk (Kd.R_below (Kd.R_elderB (kR HO_3) gb174 (Nat.le_of_eq hg.symm)) hb); replace HO_32 := Aside0.mk (Kd.R_below (Kd.R_elderB (kR HO_32) gb174 (Nat.le_of_eq hg.symm)) hb); replace HB := bst hb; clear hb hbox hg; obtain ⟨hcz22_0, hcz22_1, hcz22_2, hcz22_3, hcz22_4, hcz22_5, hfz22_0, hfz22_1, hfz22_2, hfz22_3, hfz22_4, hfz22_5⟩ := bc6 BK174)))
              go_roundg k1
              case measure => have := HK1.out; omega
              case rel => exact ⟨(wrap64 (((rd_T33 t168 x34_1).f4) + (((rd_T33 t168 x34_1).f1).size : Int))), (wrap64 (x34_1 + 1)), (by first | rfl | (simp; done) | (simp [*]; done)), (by first | rfl | (simp; done) | (simp [*]; done)), H', ⟨by have := HK1.out; omega⟩, ⟨by (with_reducible repeat (first | apply Kd.R_alloc | apply Kd.R_drewN | apply Kd.R_drew)); exact Kd.R_mono (Kd.R_far (p := ⟨gb174, 5, none⟩) (Kd.R_far (p := ⟨gb174, 4, none⟩) (Kd.R_far (p := ⟨gb174, 3, none⟩) (Kd.R_far (p := ⟨gb174, 2, none⟩) (Kd.R_far (p := ⟨gb174, 1, none⟩) (Kd.R_far (p := ⟨gb174, 0, none⟩) (Kd.R_mono HO_3.out (fun k_ hk => (⟨hk, hk.2⟩ : _ ∧ k_ ≠ gb174))) (fun _ hk => hk.2) (.int .i64 ((rd_T33 t168 x34_1).f0))) (fun _ hk => hk.2) (.string ((rd_T33 t168 x34_1).f1))) (fun _ hk => hk.2) (.int .i64 ((rd_T33 t168 x34_1).f2))) (fun _ hk => hk.2) (.int .u32 ((rd_T33 t168 x34_1).f3.f0))) (fun _ hk => hk.2) (.int .i64 ((rd_T33 t168 x34_1).f3.f1))) (fun _ hk => hk.2) (.int .i64 ((rd_T33 t168 x34_1).f4))) (fun _ hk => trivial)⟩, ⟨by (with_reducible repeat (first | apply Kd.R_alloc | apply Kd.R_drewN | apply Kd.R_drew)); exact Kd.R_mono (Kd.R_far (p := ⟨gb174, 5, none⟩) (Kd.R_far (p := ⟨gb174, 4, none⟩) (Kd.R_far (p := ⟨gb174, 3, none⟩) (Kd.R_far (p := ⟨gb174, 2, none⟩) (Kd.R_far (p := ⟨gb174, 1, none⟩) (Kd.R_far (p := ⟨gb174, 0, none⟩) (Kd.R_mono HO_32.out (fun k_ hk => (⟨hk, hk.2⟩ : _ ∧ k_ ≠ gb174))) (fun _ hk => hk.2) (.int .i64 ((rd_T33 t168 x34_1).f0))) (fun _ hk => hk.2) (.string ((rd_T33 t168 x34_1).f1))) (fun _ hk => hk.2) (.int .i64 ((rd_T33 t168 x34_1).f2))) (fun _ hk => hk.2) (.int .u32 ((rd_T33 t168 x34_1).f3.f0))) (fun _ hk => hk.2) (.int .i64 ((rd_T33 t168 x34_1).f3.f1))) (fun _ hk => hk.2) (.int .i64 ((rd_T33 t168 x34_1).f4))) (fun _ hk => trivial)⟩, ⟨by repeat (first | (with_reducible first | exact HB.out | apply below_alloc | apply pw_below_drewN | apply below_drew1 | refine below_set ?_ GE174.out) | exact HB.out)⟩⟩
             ·rw [if_neg c20] at H
              have c20b0 : ((a0.extract (((rd_T33 t168 x34_1).f4) : Int).toNat ((wrap64 (((rd_T33 t168 x34_1).f4) + (((rd_T33 t168 x34_1).f1).size : Int))) : Int).toNat).toList == ((rd_T33 t168 x34_1).f1).toList) = false := beq_eq_false_iff_ne.mpr c20
              have c20b1 : ((a0.extract (((rd_T33 t168 x34_1).f4) : Int).toNat ((wrap64 (((rd_T33 t168 x34_1).f4) + (((rd_T33 t168 x34_1).f1).size : Int))) : Int).toNat).toList != ((rd_T33 t168 x34_1).f1).toList) = true := bne_iff_ne.mpr c20
              obtain rfl := Option.some.inj H
              have p173 : 0 ≤ (x34_1 : Int) := of_decide_eq_true (by first | (with_reducible assumption) | assumption)
              have q173 : x34_1 < (t168.length : Int) := of_decide_eq_true (by first | (with_reducible assumption) | assumption)
              obtain ⟨ad173, e173, hx173_0, hx173_1, hx173_2, hx173_3, hx173_4, hx173_5⟩ := at_T33 (Kd.R_reads' HO_32.out).2.2 x34_1 p173 q173
              cases e173
              replace p173 := eq_true p173
              replace q173 := eq_true q173
              go_wp2_with (first | ((with_reducible refine gate_dst (N := 7) rfl ?_); (try (refine gate_guard (by rfl) ?_; dsimp only)); refine bx 7 (cs := #[.int .i64 0, .string (⟨#[]⟩ : ByteArray), .int .i64 0, .int .u32 0, .int .i64 0, .int .i64 0]) (t := 33) (h := ?_); intro gb174 hg w23 hbox hb; have BK174 := Aside0.mk hbox; have GW174 : Aside0 (w.heap.size ≤ gb174) := bge hg; have GE174 : Aside0 (w.heap.size ≤ gb174) := bge hg; replace HO_3 := Aside0.mk (Kd.R_below (Kd.R_elderB (kR HO_3) gb174 (Nat.le_of_eq hg.symm)) hb); replace HO_32 := Aside0.mk (Kd.R_below (Kd.R_elderB (kR HO_32) gb174 (Nat.le_of_eq hg.symm)) hb); replace HB := bst hb; clear hb hbox hg; obtain ⟨hcz24_0, hcz24_1, hcz24_2, hcz24_3, hcz24_4, hcz24_5, hfz24_0, hfz24_1, hfz24_2, hfz24_3, hfz24_4, hfz24_5⟩ := bc6 BK174))
              repeat (go_quiet (first | ((with_reducible refine gate_dst (N := 7) rfl ?_); (try (refine gate_guard (by rfl) ?_; dsimp only)); refine bx 7 (cs := #[.int .i64 0, .string (⟨#[]⟩ : ByteArray), .int .i64 0, .int .u32 0, .int .i64 0, .int .i64 0]) (t := 33) (h := ?_); intro gb174 hg w23 hbox hb; have BK174 := Aside0.mk hbox; have GW174 : Aside0 (w.heap.size ≤ gb174) := bge hg; have GE174 : Aside0 (w.heap.size ≤ gb174) := bge hg; replace HO_3 := Aside0.mk (Kd.R_below (Kd.R_elderB (kR HO_3) gb174 (Nat.le_of_eq hg.symm)) hb); replace HO_32 := Aside0.mk (Kd.R_below (Kd.R_elderB (kR HO_32) gb174 (Nat.le_of_eq hg.symm)) hb); replace HB := bst hb; clear hb hbox hg; obtain ⟨hcz24_0, hcz24_1, hcz24_2, hcz24_3, hcz24_4, hcz24_5, hfz24_0, hfz24_1, hfz24_2, hfz24_3, hfz24_4, hfz24_5⟩ := bc6 BK174)); try go_wp2_with (first | ((with_reducible refine gate_dst (N := 7) rfl ?_); (try (refine gate_guard (by rfl) ?_; dsimp only)); refine bx 7 (cs := #[.int .i64 0, .string (⟨#[]⟩ : ByteArray), .int .i64 0, .int .u32 0, .int .i64 0, .int .i64 0]) (t := 33) (h := ?_); intro gb174 hg w23 hbox hb; have BK174 := Aside0.mk hbox; have GW174 : Aside0 (w.heap.size ≤ gb174) := bge hg; have GE174 : Aside0 (w.heap.size ≤ gb174) := bge hg; replace HO_3 := Aside0.mk (Kd.R_below (Kd.R_elderB (kR HO_3) gb174 (Nat.le_of_eq hg.symm)) hb); replace HO_32 := Aside0.mk (Kd.R_below (Kd.R_elderB (kR HO_32) gb174 (Nat.le_of_eq hg.symm)) hb); replace HB := bst hb; clear hb hbox hg; obtain ⟨hcz24_0, hcz24_1, hcz24_2, hcz24_3, hcz24_4, hcz24_5, hfz24_0, hfz24_1, hfz24_2, hfz24_3, hfz24_4, hfz24_5⟩ := bc6 BK174)))
              go_ret
              exact ⟨by first | rfl | (simp [errW_none, errW_some] <;> rfl) | (simp [*, errW_none, errW_some] <;> rfl), by repeat (first | (with_reducible first | exact HB.out | apply below_alloc | apply pw_below_drewN | apply below_drew1 | refine below_set ?_ GE174.out) | exact HB.out)⟩
            ·rw [if_neg c19] at H
             exact absurd H (by simp)
           ·rw [if_neg c18] at H
            exact absurd H (by simp)
          ·rw [if_neg c17] at H
           exact absurd H (by simp)
       ·rw [if_neg c10] at H
        exact absurd H (by simp)
      ·rw [if_neg c9] at H
       exact absurd H (by simp)
     ·rw [if_neg c8] at H
      have c8b0 := decide_eq_false c8
      clear c8
      by_cases c25 : (t168.length : Int) > 0
      ·rw [if_pos c25] at H
       have c25b0 : decide (0 < (t168.length : Int)) = true := decide_eq_true c25
       have c25b1 : decide (0 < t168.length) = true := decide_eq_true (by omega)
       clear c25
       obtain ⟨ji26, hji26⟩ : ∃ j_ : Int, (wrap64 ((t168.length : Int) - 1)) = j_ := ⟨_, rfl⟩
       replace H : (if 0 ≤ (ji26) then (if (ji26) < (t168.length : Int) then (some (((rd_T33 t168 (ji26)).f4) == (a0.size : Int))) else (none)) else (none)) = some r := by first | (rw [hji26] at H; exact H) | (simp only [hji26] at H ⊢; exact H)
       have hji26w : (IntKind.i64.wrap ((t168.length : Int) - 1)) = ji26 := (i64_w _).trans hji26
       by_cases c27 : 0 ≤ (ji26)
       ·rw [if_pos c27] at H
        have c27b0 := decide_eq_true c27
        clear c27
        by_cases c28 : (ji26) < (t168.length : Int)
        ·rw [if_pos c28] at H
         have c28b0 := decide_eq_true c28
         clear c28
         obtain rfl := Option.some.inj H
         have p175 : 0 ≤ ((ji26) : Int) := of_decide_eq_true (by first | (with_reducible assumption) | assumption)
         have q175 : (ji26) < (t168.length : Int) := of_decide_eq_true (by first | (with_reducible assumption) | assumption)
         obtain ⟨ad175, e175, hx175_0, hx175_1, hx175_2, hx175_3, hx175_4, hx175_5⟩ := at_T33 (Kd.R_reads' HO_3.out).2.2 (ji26) p175 q175
         cases e175
         replace p175 := eq_true p175
         replace q175 := eq_true q175
         go_wp2
         repeat (go_quiet (fail); try go_wp2)
         go_ret
         exact ⟨by first | rfl | (simp [errW_none, errW_some] <;> rfl) | (simp only [← hji26]; first | rfl | (simp [errW_none, errW_some] <;> rfl)) | (simp [*, errW_none, errW_some] <;> rfl), by repeat (first | (with_reducible first | exact HB.out | apply below_alloc | apply pw_below_drewN | apply below_drew1) | exact HB.out)⟩
        ·rw [if_neg c28] at H
         exact absurd H (by simp)
       ·rw [if_neg c27] at H
        exact absurd H (by simp)
      ·rw [if_neg c25] at H
       have c25b0 : decide (0 < (t168.length : Int)) = false := decide_eq_false c25
       have c25b1 : decide (0 < t168.length) = false := decide_eq_false (by omega)
       clear c25
       obtain rfl := Option.some.inj H
       go_wp2
       repeat (go_quiet (fail); try go_wp2)
       go_ret
       exact ⟨by first | rfl | (simp [errW_none, errW_some] <;> rfl) | (simp [*, errW_none, errW_some] <;> rfl), by repeat (first | (with_reducible first | exact HB.out | apply below_alloc | apply pw_below_drewN | apply below_drew1) | exact HB.out)⟩
  ·have H1 : (if (t168.length : Int) = 0 then ((api_Place.f (some q172)).bind fun t176 => (if t176 ≥ 0 then ((api_Place.f (some q172)).bind fun t177 => (some (decide (t177 ≤ (a0.size : Int))))) else (some false))) else (some false)) = some r := by rw [if_neg (show ¬ (some q172).isNone = true by simp)] at H; exact H
   clear H
   have H := H1
   clear H1
   try simp only [errW_none, errW_some]
   by_cases c29 : (t168.length : Int) = 0
   ·rw [if_pos c29] at H
    have c29b0 : ((t168.length : Int) == 0) = true := beq_iff_eq.mpr c29
    have c29b1 : ((t168.length : Int) != 0) = false := bne_eq_false_iff_eq.mpr c29
    clear c29
    replace H := Option.bind_eq_some_iff.mp H
    obtain ⟨t176, A300, H⟩ := H
    replace H : (if t176 ≥ 0 then ((api_Place.f (some q172)).bind fun t177 => (some (decide (t177 ≤ (a0.size : Int))))) else (some false)) = some r := H
    have A30 := Aside0.mk A300
    clear A300
    by_cases c31 : t176 ≥ 0
    ·rw [if_pos c31] at H
     have c31b0 : decide (0 ≤ t176) = true := decide_eq_true c31
     clear c31
     replace H := Option.bind_eq_some_iff.mp H
     obtain ⟨t177, A320, H⟩ := H
     replace H : (some (decide (t177 ≤ (a0.size : Int)))) = some r := H
     have A32 := Aside0.mk A320
     clear A320
     have hEq_ : t177 = t176 := Option.some.inj (A32.out.symm.trans A30.out)
     obtain rfl := Option.some.inj H
     go_enter Tryd.func4, Tryd.ntmps4
     go_wp2_with (first | (go_at_call 8; (with_reducible refine (maquettelaw06_awake.calls k  true _ A2.out (Go.Proofs.YthodilggomedgaaDoor.InvE.ivb hInv)).mono ?_); rintro e w33 ⟨rfl, hb⟩; replace HB := bst hb; (try clear hb); (try clear hb2); (try clear hk); (try clear hi)) | (go_at_call 9; (with_reducible refine (token_Cut.calls k a0 t168 (some q172) _ A4.out (Go.Proofs.YthodilggomedgaaDoor.InvE.ivb hInv)).mono ?_); rintro e w34 ⟨v170, rfl, ho0, hb⟩; have HO171 := Aside0.mk (Kd.R_lower ho0 (below_size bel)); replace HB := bst hb; (try clear hb); (try clear hb2); (try clear hk); (try clear hi); (try clear ho0); (try simp only [errW_none, errW_some]); obtain ⟨Ao35, co35, eo35⟩ := Kd.R_slice HO171.out; subst eo35; have CA30 := fun W hI_ => api_Place.calls (some q172) t176 W A30.out hI_; try simp only [errW_none, errW_some] at CA30) | (go_at_call 10; (with_reducible refine (CA30 _ (Go.Proofs.YthodilggomedgaaDoor.InvE.ivb hInv)).mono ?_); rintro e w36 ⟨rfl, hb⟩; replace HO171 := Aside0.mk (Kd.R_below (kR HO171) hb); replace HB := bst hb; (try clear hb); (try clear hb2); (try clear hk); (try clear hi); have CA32 := fun W hI_ => api_Place.calls (some q172) t177 W A32.out hI_; try simp only [errW_none, errW_some] at CA32) | (go_at_call 10; (with_reducible refine (CA32 _ (Go.Proofs.YthodilggomedgaaDoor.InvE.ivb hInv)).mono ?_); rintro e w37 ⟨rfl, hb⟩; replace HO171 := Aside0.mk (Kd.R_below (kR HO171) hb); replace HB := bst hb; (try clear hb); (try clear hb2); (try clear hk); (try clear hi)))
     repeat (go_quiet (first | (go_at_call 8; (with_reducible refine (maquettelaw06_awake.calls k  true _ A2.out (Go.Proofs.YthodilggomedgaaDoor.InvE.ivb hInv)).mono ?_); rintro e w33 ⟨rfl, hb⟩; replace HB := bst hb; (try clear hb); (try clear hb2); (try clear hk); (try clear hi)) | (go_at_call 9; (with_reducible refine (token_Cut.calls k a0 t168 (some q172) _ A4.out (Go.Proofs.YthodilggomedgaaDoor.InvE.ivb hInv)).mono ?_); rintro e w34 ⟨v170, rfl, ho0, hb⟩; have HO171 := Aside0.mk (Kd.R_lower ho0 (below_size bel)); replace HB := bst hb; (try clear hb); (try clear hb2); (try clear hk); (try clear hi); (try clear ho0); (try simp only [errW_none, errW_some]); obtain ⟨Ao35, co35, eo35⟩ := Kd.R_slice HO171.out; subst eo35; have CA30 := fun W hI_ => api_Place.calls (some q172) t176 W A30.out hI_; try simp only [errW_none, errW_some] at CA30) | (go_at_call 10; (with_reducible refine (CA30 _ (Go.Proofs.YthodilggomedgaaDoor.InvE.ivb hInv)).mono ?_); rintro e w36 ⟨rfl, hb⟩; replace HO171 := Aside0.mk (Kd.R_below (kR HO171) hb); replace HB := bst hb; (try clear hb); (try clear hb2); (try clear hk); (try clear hi); have CA32 := fun W hI_ => api_Place.calls (some q172) t177 W A32.out hI_; try simp only [errW_none, errW_some] at CA32) | (go_at_call 10; (with_reducible refine (CA32 _ (Go.Proofs.YthodilggomedgaaDoor.InvE.ivb hInv)).mono ?_); rintro e w37 ⟨rfl, hb⟩; replace HO171 := Aside0.mk (Kd.R_below (kR HO171) hb); replace HB := bst hb; (try clear hb); (try clear hb2); (try clear hk); (try clear hi))); try go_wp2_with (first | (go_at_call 8; (with_reducible refine (maquettelaw06_awake.calls k  true _ A2.out (Go.Proofs.YthodilggomedgaaDoor.InvE.ivb hInv)).mono ?_); rintro e w33 ⟨rfl, hb⟩; replace HB := bst hb; (try clear hb); (try clear hb2); (try clear hk); (try clear hi)) | (go_at_call 9; (with_reducible refine (token_Cut.calls k a0 t168 (some q172) _ A4.out (Go.Proofs.YthodilggomedgaaDoor.InvE.ivb hInv)).mono ?_); rintro e w34 ⟨v170, rfl, ho0, hb⟩; have HO171 := Aside0.mk (Kd.R_lower ho0 (below_size bel)); replace HB := bst hb; (try clear hb); (try clear hb2); (try clear hk); (try clear hi); (try clear ho0); (try simp only [errW_none, errW_some]); obtain ⟨Ao35, co35, eo35⟩ := Kd.R_slice HO171.out; subst eo35; have CA30 := fun W hI_ => api_Place.calls (some q172) t176 W A30.out hI_; try simp only [errW_none, errW_some] at CA30) | (go_at_call 10; (with_reducible refine (CA30 _ (Go.Proofs.YthodilggomedgaaDoor.InvE.ivb hInv)).mono ?_); rintro e w36 ⟨rfl, hb⟩; replace HO171 := Aside0.mk (Kd.R_below (kR HO171) hb); replace HB := bst hb; (try clear hb); (try clear hb2); (try clear hk); (try clear hi); have CA32 := fun W hI_ => api_Place.calls (some q172) t177 W A32.out hI_; try simp only [errW_none, errW_some] at CA32) | (go_at_call 10; (with_reducible refine (CA32 _ (Go.Proofs.YthodilggomedgaaDoor.InvE.ivb hInv)).mono ?_); rintro e w37 ⟨rfl, hb⟩; replace HO171 := Aside0.mk (Kd.R_below (kR HO171) hb); replace HB := bst hb; (try clear hb); (try clear hb2); (try clear hk); (try clear hi))))
     go_ret
     exact ⟨by first | rfl | (simp [errW_none, errW_some] <;> rfl) | (simp [*, errW_none, errW_some] <;> rfl), by repeat (first | (with_reducible first | exact HB.out | apply below_alloc | apply pw_below_drewN | apply below_drew1) | exact HB.out)⟩
    ·rw [if_neg c31] at H
     have c31b0 : decide (0 ≤ t176) = false := decide_eq_false c31
     clear c31
     obtain rfl := Option.some.inj H
     go_enter Tryd.func4, Tryd.ntmps4
     go_wp2_with (first | (go_at_call 8; (with_reducible refine (maquettelaw06_awake.calls k  true _ A2.out (Go.Proofs.YthodilggomedgaaDoor.InvE.ivb hInv)).mono ?_); rintro e w38 ⟨rfl, hb⟩; replace HB := bst hb; (try clear hb); (try clear hb2); (try clear hk); (try clear hi)) | (go_at_call 9; (with_reducible refine (token_Cut.calls k a0 t168 (some q172) _ A4.out (Go.Proofs.YthodilggomedgaaDoor.InvE.ivb hInv)).mono ?_); rintro e w39 ⟨v170, rfl, ho0, hb⟩; have HO171 := Aside0.mk (Kd.R_lower ho0 (below_size bel)); replace HB := bst hb; (try clear hb); (try clear hb2); (try clear hk); (try clear hi); (try clear ho0); (try simp only [errW_none, errW_some]); obtain ⟨Ao40, co40, eo40⟩ := Kd.R_slice HO171.out; subst eo40; have CA30 := fun W hI_ => api_Place.calls (some q172) t176 W A30.out hI_; try simp only [errW_none, errW_some] at CA30) | (go_at_call 10; (with_reducible refine (CA30 _ (Go.Proofs.YthodilggomedgaaDoor.InvE.ivb hInv)).mono ?_); rintro e w41 ⟨rfl, hb⟩; replace HO171 := Aside0.mk (Kd.R_below (kR HO171) hb); replace HB := bst hb; (try clear hb); (try clear hb2); (try clear hk); (try clear hi)))
     repeat (go_quiet (first | (go_at_call 8; (with_reducible refine (maquettelaw06_awake.calls k  true _ A2.out (Go.Proofs.YthodilggomedgaaDoor.InvE.ivb hInv)).mono ?_); rintro e w38 ⟨rfl, hb⟩; replace HB := bst hb; (try clear hb); (try clear hb2); (try clear hk); (try clear hi)) | (go_at_call 9; (with_reducible refine (token_Cut.calls k a0 t168 (some q172) _ A4.out (Go.Proofs.YthodilggomedgaaDoor.InvE.ivb hInv)).mono ?_); rintro e w39 ⟨v170, rfl, ho0, hb⟩; have HO171 := Aside0.mk (Kd.R_lower ho0 (below_size bel)); replace HB := bst hb; (try clear hb); (try clear hb2); (try clear hk); (try clear hi); (try clear ho0); (try simp only [errW_none, errW_some]); obtain ⟨Ao40, co40, eo40⟩ := Kd.R_slice HO171.out; subst eo40; have CA30 := fun W hI_ => api_Place.calls (some q172) t176 W A30.out hI_; try simp only [errW_none, errW_some] at CA30) | (go_at_call 10; (with_reducible refine (CA30 _ (Go.Proofs.YthodilggomedgaaDoor.InvE.ivb hInv)).mono ?_); rintro e w41 ⟨rfl, hb⟩; replace HO171 := Aside0.mk (Kd.R_below (kR HO171) hb); replace HB := bst hb; (try clear hb); (try clear hb2); (try clear hk); (try clear hi))); try go_wp2_with (first | (go_at_call 8; (with_reducible refine (maquettelaw06_awake.calls k  true _ A2.out (Go.Proofs.YthodilggomedgaaDoor.InvE.ivb hInv)).mono ?_); rintro e w38 ⟨rfl, hb⟩; replace HB := bst hb; (try clear hb); (try clear hb2); (try clear hk); (try clear hi)) | (go_at_call 9; (with_reducible refine (token_Cut.calls k a0 t168 (some q172) _ A4.out (Go.Proofs.YthodilggomedgaaDoor.InvE.ivb hInv)).mono ?_); rintro e w39 ⟨v170, rfl, ho0, hb⟩; have HO171 := Aside0.mk (Kd.R_lower ho0 (below_size bel)); replace HB := bst hb; (try clear hb); (try clear hb2); (try clear hk); (try clear hi); (try clear ho0); (try simp only [errW_none, errW_some]); obtain ⟨Ao40, co40, eo40⟩ := Kd.R_slice HO171.out; subst eo40; have CA30 := fun W hI_ => api_Place.calls (some q172) t176 W A30.out hI_; try simp only [errW_none, errW_some] at CA30) | (go_at_call 10; (with_reducible refine (CA30 _ (Go.Proofs.YthodilggomedgaaDoor.InvE.ivb hInv)).mono ?_); rintro e w41 ⟨rfl, hb⟩; replace HO171 := Aside0.mk (Kd.R_below (kR HO171) hb); replace HB := bst hb; (try clear hb); (try clear hb2); (try clear hk); (try clear hi))))
     go_ret
     exact ⟨by first | rfl | (simp [errW_none, errW_some] <;> rfl) | (simp [*, errW_none, errW_some] <;> rfl), by repeat (first | (with_reducible first | exact HB.out | apply below_alloc | apply pw_below_drewN | apply below_drew1) | exact HB.out)⟩
   ·rw [if_neg c29] at H
    have c29b0 : ((t168.length : Int) == 0) = false := beq_eq_false_iff_ne.mpr c29
    have c29b1 : ((t168.length : Int) != 0) = true := bne_iff_ne.mpr c29
    have c29b2 : ¬ (t168 = []) := fun h_ => c29 (by rw [h_]; rfl)
    obtain rfl := Option.some.inj H
    go_enter Tryd.func4, Tryd.ntmps4
    go_wp2_with (first | (go_at_call 8; (with_reducible refine (maquettelaw06_awake.calls k  true _ A2.out (Go.Proofs.YthodilggomedgaaDoor.InvE.ivb hInv)).mono ?_); rintro e w42 ⟨rfl, hb⟩; replace HB := bst hb; (try clear hb); (try clear hb2); (try clear hk); (try clear hi)) | (go_at_call 9; (with_reducible refine (token_Cut.calls k a0 t168 (some q172) _ A4.out (Go.Proofs.YthodilggomedgaaDoor.InvE.ivb hInv)).mono ?_); rintro e w43 ⟨v170, rfl, ho0, hb⟩; have HO171 := Aside0.mk (Kd.R_lower ho0 (below_size bel)); replace HB := bst hb; (try clear hb); (try clear hb2); (try clear hk); (try clear hi); (try clear ho0); (try simp only [errW_none, errW_some]); obtain ⟨Ao44, co44, eo44⟩ := Kd.R_slice HO171.out; subst eo44))
    repeat (go_quiet (first | (go_at_call 8; (with_reducible refine (maquettelaw06_awake.calls k  true _ A2.out (Go.Proofs.YthodilggomedgaaDoor.InvE.ivb hInv)).mono ?_); rintro e w42 ⟨rfl, hb⟩; replace HB := bst hb; (try clear hb); (try clear hb2); (try clear hk); (try clear hi)) | (go_at_call 9; (with_reducible refine (token_Cut.calls k a0 t168 (some q172) _ A4.out (Go.Proofs.YthodilggomedgaaDoor.InvE.ivb hInv)).mono ?_); rintro e w43 ⟨v170, rfl, ho0, hb⟩; have HO171 := Aside0.mk (Kd.R_lower ho0 (below_size bel)); replace HB := bst hb; (try clear hb); (try clear hb2); (try clear hk); (try clear hi); (try clear ho0); (try simp only [errW_none, errW_some]); obtain ⟨Ao44, co44, eo44⟩ := Kd.R_slice HO171.out; subst eo44)); try go_wp2_with (first | (go_at_call 8; (with_reducible refine (maquettelaw06_awake.calls k  true _ A2.out (Go.Proofs.YthodilggomedgaaDoor.InvE.ivb hInv)).mono ?_); rintro e w42 ⟨rfl, hb⟩; replace HB := bst hb; (try clear hb); (try clear hb2); (try clear hk); (try clear hi)) | (go_at_call 9; (with_reducible refine (token_Cut.calls k a0 t168 (some q172) _ A4.out (Go.Proofs.YthodilggomedgaaDoor.InvE.ivb hInv)).mono ?_); rintro e w43 ⟨v170, rfl, ho0, hb⟩; have HO171 := Aside0.mk (Kd.R_lower ho0 (below_size bel)); replace HB := bst hb; (try clear hb); (try clear hb2); (try clear hk); (try clear hi); (try clear ho0); (try simp only [errW_none, errW_some]); obtain ⟨Ao44, co44, eo44⟩ := Kd.R_slice HO171.out; subst eo44)))
    go_ret
    exact ⟨by first | rfl | (simp [errW_none, errW_some] <;> rfl) | (simp [*, errW_none, errW_some] <;> rfl), by repeat (first | (with_reducible first | exact HB.out | apply below_alloc | apply pw_below_drewN | apply below_drew1) | exact HB.out)⟩
 ·replace c3 := Bool.eq_false_iff.mpr c3
  subst c3
  have H1 : (some false) = some r := by rw [if_neg (show ¬ (false = true) by decide)] at H; exact H
  clear H
  have H := H1
  clear H1
  obtain rfl := Option.some.inj H
  go_enter Tryd.func4, Tryd.ntmps4
  go_wp2_with (first | (go_at_call 8; (with_reducible refine (maquettelaw06_awake.calls k  false _ A2.out (Go.Proofs.YthodilggomedgaaDoor.InvE.ivb hInv)).mono ?_); rintro e w45 ⟨rfl, hb⟩; replace HB := bst hb; (try clear hb); (try clear hb2); (try clear hk); (try clear hi)))
  repeat (go_quiet (first | (go_at_call 8; (with_reducible refine (maquettelaw06_awake.calls k  false _ A2.out (Go.Proofs.YthodilggomedgaaDoor.InvE.ivb hInv)).mono ?_); rintro e w45 ⟨rfl, hb⟩; replace HB := bst hb; (try clear hb); (try clear hb2); (try clear hk); (try clear hi))); try go_wp2_with (first | (go_at_call 8; (with_reducible refine (maquettelaw06_awake.calls k  false _ A2.out (Go.Proofs.YthodilggomedgaaDoor.InvE.ivb hInv)).mono ?_); rintro e w45 ⟨rfl, hb⟩; replace HB := bst hb; (try clear hb); (try clear hb2); (try clear hk); (try clear hi))))
  go_ret
  exact ⟨by first | rfl | (simp [errW_none, errW_some] <;> rfl) | (simp [*, errW_none, errW_some] <;> rfl), by repeat (first | (with_reducible first | exact HB.out | apply below_alloc | apply pw_below_drewN | apply below_drew1) | exact HB.out)⟩

end Go.Proofs.YthodilggomedgaaDoor.PTk
