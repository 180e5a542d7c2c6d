-- Written by wip/xprint.py of this work: the printer of the kit, with contracts of this work beside it, shortened.
import Derived.Test.YthodilggomedgaaDoorShort
import Derived.Test.YthodilggomedgaaDoorPTbx0
import Derived.Test.YthodilggomedgaaDoorPTbx1
import Derived.Test.YthodilggomedgaaDoorPTbx16
import Derived.Test.YthodilggomedgaaDoorPTbx17
namespace Go.Proofs.YthodilggomedgaaDoor.PTb
open Go.RowKit Go.Proofs.YthodilggomedgaaDoor.Short Go.Proofs.YthodilggomedgaaDoorW.PrintWords Go.Proofs.YthodilggomedgaaDoorW.PrintLast Go.Proofs.YthodilggomedgaaDoorW.PrintMore
attribute [local go_sem] max2_int min2_int max_two min_two max_three min_three max_four min_four   -- for this text's walks alone
set_option linter.unusedVariables false
set_option linter.unusedSimpArgs false

attribute [local go_sem high] eqA31
/-! ### maquettelaw06_TokenBack: function 3 -/
mutual
def maquettelaw06_TokenBack.l0 : Nat → List (S33) → ByteArray → List (S33) → Int → Int → Option (Bool)
 | 0, _, _, _, _, _ => none
 | k + 1, x3, x5, x26, x27, x28 => if x28 < x27 then (if 0 ≤ x28 then (if x28 < (x26.length : Int) then (if x5.size + ((rd_T33 x26 x28).f1).size ≤ 9223372036854775807 then (if (x5 ++ ((rd_T33 x26 x28).f1)).size + 1 ≤ 9223372036854775807 then (maquettelaw06_TokenBack.l0 k x3 ((x5 ++ ((rd_T33 x26 x28).f1)) ++ (⟨#[32]⟩ : ByteArray)) x26 x27 (wrap64 (x28 + 1))) else (none)) else (none)) else (none)) else (none)) else ((token_Cut.f k x5).bind fun bt175 => (if bt175.2.isNone = true then (maquettelaw06_TokenBack.j1 k x3 bt175.1 ((bt175.1.length : Int) != (x3.length : Int))) else (maquettelaw06_TokenBack.j1 k x3 bt175.1 true)))
def maquettelaw06_TokenBack.j1 : Nat → List (S33) → List (S33) → Bool → Option (Bool)
 | 0, _, _, _ => none
 | k + 1, x3, x8, x51 => if x51 = true then (some false) else (maquettelaw06_TokenBack.l1 k x3 x8 (x3.length : Int) 0)
def maquettelaw06_TokenBack.l1 : Nat → List (S33) → List (S33) → Int → Int → Option (Bool)
 | 0, _, _, _, _ => none
 | k + 1, x3, x8, x53, x54 => if x54 < x53 then (if 0 ≤ x54 then (if x54 < (x3.length : Int) then (if x54 < (x8.length : Int) then (if ((rd_T33 x3 x54).f0) = ((rd_T33 x8 x54).f0) then (if ((rd_T33 x3 x54).f1).toList = ((rd_T33 x8 x54).f1).toList then (if ((rd_T33 x3 x54).f2) = ((rd_T33 x8 x54).f2) then (if (!(((rd_T33 x3 x54).f3.f0) == ((rd_T33 x8 x54).f3.f0)) || (!(((rd_T33 x3 x54).f3.f1) == ((rd_T33 x8 x54).f3.f1)))) = true then (some false) else (maquettelaw06_TokenBack.l1 k x3 x8 x53 (wrap64 (x54 + 1)))) else (some false)) else (some false)) else (some false)) else (none)) else (none)) else (none)) else (some true)
end
def maquettelaw06_TokenBack.f (k : Nat) (a0 : ByteArray) : Option (Bool) := (maquettelaw06_awake.f k).bind fun t167 => (if t167 = true then (if (a0.size : Int) > 2000 then (some true) else ((token_Cut.f k a0).bind fun bt168 => (if bt168.2.isNone = true then (maquettelaw06_TokenBack.l0 k bt168.1 (⟨#[]⟩ : ByteArray) bt168.1 (bt168.1.length : Int) 0) else (some ((bt168.1.length : Int) == 0))))) else (some false))
theorem maquettelaw06_TokenBack.mono_l : ∀ k, (∀ y0 y1 y2 y3 y4, LeO (maquettelaw06_TokenBack.l0 k y0 y1 y2 y3 y4) (maquettelaw06_TokenBack.l0 (k + 1) y0 y1 y2 y3 y4)) ∧ (∀ y0 y1 y2, LeO (maquettelaw06_TokenBack.j1 k y0 y1 y2) (maquettelaw06_TokenBack.j1 (k + 1) y0 y1 y2)) ∧ (∀ y0 y1 y2 y3, LeO (maquettelaw06_TokenBack.l1 k y0 y1 y2 y3) (maquettelaw06_TokenBack.l1 (k + 1) y0 y1 y2 y3))
 | 0 => ⟨fun _ _ _ _ _ r h => by simp [maquettelaw06_TokenBack.l0] at h, fun _ _ _ r h => by simp [maquettelaw06_TokenBack.j1] at h, fun _ _ _ _ r h => by simp [maquettelaw06_TokenBack.l1] at h⟩
 | k + 1 => by
  obtain ⟨ih0, ih1, ih2⟩ := maquettelaw06_TokenBack.mono_l k
  refine ⟨?_, ?_, ?_⟩<;> intros <;> (first | unfold maquettelaw06_TokenBack.l0 | unfold maquettelaw06_TokenBack.j1 | unfold maquettelaw06_TokenBack.l1) <;> repeat' first
   | (with_reducible exact ih0 _ _ _ _ _)
   | (with_reducible exact ih1 _ _ _)
   | (with_reducible exact ih2 _ _ _ _)
   | (with_reducible exact maquettelaw06_awake.mono _)
   | (with_reducible exact token_Cut.mono _ _)
   | (with_reducible exact LeO.refl _)
   | (with_reducible exact LeO.none _)
   | (with_reducible refine LeO.ite ?_ ?_)
   | (with_reducible refine LeO.bind ?_ (fun _ => ?_))
   | exact ih0 _ _ _ _ _
   | exact ih1 _ _ _
   | exact ih2 _ _ _ _
   | exact maquettelaw06_awake.mono _
   | exact token_Cut.mono _ _
   | exact LeO.none _
   | refine LeO.ite ?_ ?_
   | refine LeO.bind ?_ (fun _ => ?_)
theorem maquettelaw06_TokenBack.mono : ∀ a0 k, LeO (maquettelaw06_TokenBack.f k a0) (maquettelaw06_TokenBack.f (k + 1) a0) := by
 intro a0 k
 obtain ⟨ih0, ih1, ih2⟩ := maquettelaw06_TokenBack.mono_l k
 unfold maquettelaw06_TokenBack.f
 repeat' first
   | (with_reducible exact ih0 _ _ _ _ _)
   | (with_reducible exact ih1 _ _ _)
   | (with_reducible exact ih2 _ _ _ _)
   | (with_reducible exact maquettelaw06_awake.mono _)
   | (with_reducible exact token_Cut.mono _ _)
   | (with_reducible exact LeO.refl _)
   | (with_reducible exact LeO.none _)
   | (with_reducible refine LeO.ite ?_ ?_)
   | (with_reducible refine LeO.bind ?_ (fun _ => ?_))
   | exact ih0 _ _ _ _ _
   | exact ih1 _ _ _
   | exact ih2 _ _ _ _
   | exact maquettelaw06_awake.mono _
   | exact token_Cut.mono _ _
   | exact LeO.none _
   | refine LeO.ite ?_ ?_
   | refine LeO.bind ?_ (fun _ => ?_)
set_option maxHeartbeats 8000000 in
set_option maxRecDepth 100000 in
theorem maquettelaw06_TokenBack.calls (k : Nat) (a0 : ByteArray) (r : Bool) (w : World) (h : maquettelaw06_TokenBack.f k a0 = some r) (hInv : Go.Proofs.YthodilggomedgaaDoor.Inv.Inv w) :
  Calls Tryd.prog 3 #[.string a0] w fun e w' => e = .returned (.bool r) ∧ Below w.heap.size w w' := by
 have hu33 := Tryd.underlying33
 have hu31 := Tryd.underlying31
 have hu25 := Tryd.underlying25
 have HB := Aside0.mk (Below.refl w.heap.size w)
 have H : ((maquettelaw06_awake.f k).bind fun t167 => (if t167 = true then (if (a0.size : Int) > 2000 then (some true) else ((token_Cut.f k a0).bind fun bt168 => (if bt168.2.isNone = true then (maquettelaw06_TokenBack.l0 k bt168.1 (⟨#[]⟩ : ByteArray) bt168.1 (bt168.1.length : Int) 0) else (some ((bt168.1.length : Int) == 0))))) else (some false))) = some r := h
 clear h
 replace H := Option.bind_eq_some_iff.mp H
 obtain ⟨t167, A20, H⟩ := H
 replace H : (if t167 = true then (if (a0.size : Int) > 2000 then (some true) else ((token_Cut.f k a0).bind fun bt168 => (if bt168.2.isNone = true then (maquettelaw06_TokenBack.l0 k bt168.1 (⟨#[]⟩ : ByteArray) bt168.1 (bt168.1.length : Int) 0) else (some ((bt168.1.length : Int) == 0))))) else (some false)) = some r := H
 have A2 := Aside0.mk A20
 clear A20
 by_cases c3 : t167 = true
 ·subst c3
  have H1 : (if (a0.size : Int) > 2000 then (some true) else ((token_Cut.f k a0).bind fun bt168 => (if bt168.2.isNone = true then (maquettelaw06_TokenBack.l0 k bt168.1 (⟨#[]⟩ : ByteArray) bt168.1 (bt168.1.length : Int) 0) else (some ((bt168.1.length : Int) == 0))))) = some r := by rw [if_pos rfl] at H; exact H
  clear H
  have H := H1
  clear H1
  by_cases c4 : (a0.size : Int) > 2000
  ·rw [if_pos c4] at H
   have c4b0 : decide (2000 < (a0.size : Int)) = true := decide_eq_true c4
   have c4b1 : decide (2000 < a0.size) = true := decide_eq_true (by omega)
   clear c4
   obtain rfl := Option.some.inj H
   go_enter Tryd.func3, Tryd.ntmps3
   go_wp2_with (first | (go_at_call 8; (with_reducible refine (maquettelaw06_awake.calls k  true _ A2.out (Go.Proofs.YthodilggomedgaaDoor.Inv.ivb hInv)).mono ?_); rintro e w5 ⟨rfl, hb⟩; replace HB := bst hb; (try clear hb); (try clear hb2); (try clear hk); (try clear hi)))
   repeat (go_quiet (first | (go_at_call 8; (with_reducible refine (maquettelaw06_awake.calls k  true _ A2.out (Go.Proofs.YthodilggomedgaaDoor.Inv.ivb hInv)).mono ?_); rintro e w5 ⟨rfl, hb⟩; replace HB := bst hb; (try clear hb); (try clear hb2); (try clear hk); (try clear hi))); try go_wp2_with (first | (go_at_call 8; (with_reducible refine (maquettelaw06_awake.calls k  true _ A2.out (Go.Proofs.YthodilggomedgaaDoor.Inv.ivb hInv)).mono ?_); rintro e w5 ⟨rfl, hb⟩; replace HB := bst hb; (try clear hb); (try clear hb2); (try clear hk); (try clear hi))))
   go_ret
   exact ⟨by first | rfl | (simp [errW_none, errW_some] <;> rfl) | (simp [*, errW_none, errW_some] <;> rfl), by repeat (first | (with_reducible first | exact HB.out | apply below_alloc | apply pw_below_drewN | apply below_drew1) | exact HB.out)⟩
  ·rw [if_neg c4] at H
   have c4b0 : decide (2000 < (a0.size : Int)) = false := decide_eq_false c4
   have c4b1 : decide (2000 < a0.size) = false := decide_eq_false (by omega)
   clear c4
   replace H := Option.bind_eq_some_iff.mp H
   obtain ⟨⟨t168, t169⟩, A60, H⟩ := H
   replace H : (if t169.isNone = true then (maquettelaw06_TokenBack.l0 k t168 (⟨#[]⟩ : ByteArray) t168 (t168.length : Int) 0) else (some ((t168.length : Int) == 0))) = some r := H
   have A6 := Aside0.mk A60
   clear A60
   rcases t169 with _ | q172
   ·have H1 : (maquettelaw06_TokenBack.l0 k t168 (⟨#[]⟩ : ByteArray) t168 (t168.length : Int) 0) = some r := by rw [if_pos (show (none : Option Int).isNone = true by rfl)] at H; exact H
    clear H
    have H := H1
    clear H1
    try simp only [errW_none, errW_some]
    have H' := Aside0.mk H
    clear H
    go_enter Tryd.func3, Tryd.ntmps3
    go_wp2_with (first | (go_at_call 8; (with_reducible refine (maquettelaw06_awake.calls k  true _ A2.out (Go.Proofs.YthodilggomedgaaDoor.Inv.ivb hInv)).mono ?_); rintro e w7 ⟨rfl, hb⟩; replace HB := bst hb; (try clear hb); (try clear hb2); (try clear hk); (try clear hi)) | (go_at_call 9; (with_reducible refine (token_Cut.calls k a0 t168 none _ A6.out (Go.Proofs.YthodilggomedgaaDoor.Inv.ivb hInv)).mono ?_); rintro e w8 ⟨v170, rfl, ho0, hb⟩; have HO171 := Aside0.mk (Kd.R_lower ho0 (below_size bel)); replace HB := bst hb; (try clear hb); (try clear hb2); (try clear hk); (try clear hi); (try clear ho0); (try simp only [errW_none, errW_some]); obtain ⟨Ao9, co9, eo9⟩ := Kd.R_slice HO171.out; subst eo9))
    repeat (go_quiet (first | (go_at_call 8; (with_reducible refine (maquettelaw06_awake.calls k  true _ A2.out (Go.Proofs.YthodilggomedgaaDoor.Inv.ivb hInv)).mono ?_); rintro e w7 ⟨rfl, hb⟩; replace HB := bst hb; (try clear hb); (try clear hb2); (try clear hk); (try clear hi)) | (go_at_call 9; (with_reducible refine (token_Cut.calls k a0 t168 none _ A6.out (Go.Proofs.YthodilggomedgaaDoor.Inv.ivb hInv)).mono ?_); rintro e w8 ⟨v170, rfl, ho0, hb⟩; have HO171 := Aside0.mk (Kd.R_lower ho0 (below_size bel)); replace HB := bst hb; (try clear hb); (try clear hb2); (try clear hk); (try clear hi); (try clear ho0); (try simp only [errW_none, errW_some]); obtain ⟨Ao9, co9, eo9⟩ := Kd.R_slice HO171.out; subst eo9)); try go_wp2_with (first | (go_at_call 8; (with_reducible refine (maquettelaw06_awake.calls k  true _ A2.out (Go.Proofs.YthodilggomedgaaDoor.Inv.ivb hInv)).mono ?_); rintro e w7 ⟨rfl, hb⟩; replace HB := bst hb; (try clear hb); (try clear hb2); (try clear hk); (try clear hi)) | (go_at_call 9; (with_reducible refine (token_Cut.calls k a0 t168 none _ A6.out (Go.Proofs.YthodilggomedgaaDoor.Inv.ivb hInv)).mono ?_); rintro e w8 ⟨v170, rfl, ho0, hb⟩; have HO171 := Aside0.mk (Kd.R_lower ho0 (below_size bel)); replace HB := bst hb; (try clear hb); (try clear hb2); (try clear hk); (try clear hi); (try clear ho0); (try simp only [errW_none, errW_some]); obtain ⟨Ao9, co9, eo9⟩ := Kd.R_slice HO171.out; subst eo9)))
    go_loopg [5, 28] k (fun kq v5 v28 w' => ∃ (x5_1 : ByteArray) (x28_1 : Int), v5 = .string x5_1 ∧ v28 = .int .i64 x28_1 ∧ Aside0 (maquettelaw06_TokenBack.l0 kq t168 x5_1 t168 (t168.length : Int) x28_1 = some r) ∧ Aside0 (kq ≤ k) ∧ Aside0 (Kd.R k33 33 w' w.heap.size (fun _ => True) (.slice Ao9 t168.length co9) t168) ∧ Aside0 (Kd.R k33 33 w' w.heap.size (fun _ => True) (.slice Ao9 t168.length co9) t168) ∧ Aside0 (Below w.heap.size w w'))
    case atStart => exact ⟨((⟨#[]⟩ : ByteArray)), (0), (by first | rfl | (simp; done) | (simp [*]; done)), (by first | rfl | (simp; done) | (simp [*]; done)), H', ⟨Nat.le_refl _⟩, ⟨by (with_reducible repeat (first | apply Kd.R_alloc | apply Kd.R_drewN | apply Kd.R_drew)); exact HO171.out⟩, ⟨by (with_reducible repeat (first | apply Kd.R_alloc | apply Kd.R_drewN | apply Kd.R_drew)); exact HO171.out⟩, ⟨by repeat (first | (with_reducible first | exact HB.out | apply below_alloc | apply pw_below_drewN | apply below_drew1) | exact HB.out)⟩⟩
    case round =>
     clear H'
     try clear q1
     try clear p2
     try clear c3
     try clear c4
     try clear c4b0
     try clear c4b1
     try clear q172
     obtain ⟨x5_1, x28_1, rfl, rfl, HA, HK1, HO_3, HO_26, HB⟩ := hrel
     cases gk with
     | zero => exact absurd HA.out (by simp [maquettelaw06_TokenBack.l0])
     | succ k1 =>
      have H := HA.out
      clear HA
      simp only [maquettelaw06_TokenBack.l0] at H
      by_cases c10 : x28_1 < (t168.length : Int)
      ·rw [if_pos c10] at H
       have c10b0 := decide_eq_true c10
       clear c10
       by_cases c11 : 0 ≤ x28_1
       ·rw [if_pos c11] at H
        have c11b0 := decide_eq_true c11
        clear c11
        by_cases c12 : x28_1 < (t168.length : Int)
        ·rw [if_pos c12] at H
         have c12b0 := decide_eq_true c12
         clear c12
         by_cases c13 : x5_1.size + ((rd_T33 t168 x28_1).f1).size ≤ 9223372036854775807
         ·rw [if_pos c13] at H
          have c13b0 := eq_true c13
          have c13b1 := decide_eq_true c13
          try have c13b2 := eq_false (Nat.not_lt.2 c13)
          by_cases c14 : (x5_1 ++ ((rd_T33 t168 x28_1).f1)).size + 1 ≤ 9223372036854775807
          ·rw [if_pos c14] at H
           have c14b0 := eq_true c14
           have c14b1 := decide_eq_true c14
           try have c14b2 := eq_false (Nat.not_lt.2 c14)
           try have c14b3 : (9223372036854775807 < x5_1.size + ((rd_T33 t168 x28_1).f1).size + 1) = False := by (have h_ := c14; simp only [ByteArray.size_append] at h_; exact eq_false (Nat.not_lt.2 h_))
           have H' := Aside0.mk H
           clear H
           have p173 : 0 ≤ (x28_1 : Int) := of_decide_eq_true (by first | (with_reducible assumption) | assumption)
           have q173 : x28_1 < (t168.length : Int) := of_decide_eq_true (by first | (with_reducible assumption) | assumption)
           obtain ⟨ad173, e173, hx173_0, hx173_1, hx173_2, hx173_3, hx173_4, hx173_5⟩ := at_T33 (Kd.R_reads' HO_26.out).2.2 x28_1 p173 q173
           cases e173
           replace p173 := eq_true p173
           replace q173 := eq_true q173
           go_wp2_with (first | ((with_reducible refine gate_dst (N := 7) rfl ?_); (try (refine gate_guard (by rfl) ?_; dsimp only)); refine bx 7 (cs := #[.int .i64 0, .string (⟨#[]⟩ : ByteArray), .int .i64 0, .int .u32 0, .int .i64 0, .int .i64 0]) (t := 33) (h := ?_); intro gb174 hg w15 hbox hb; have BK174 := Aside0.mk hbox; have GW174 : Aside0 (w.heap.size ≤ gb174) := bge hg; have GE174 : Aside0 (w.heap.size ≤ gb174) := bge hg; replace HO_3 := Aside0.mk (Kd.R_below (Kd.R_elderB (kR HO_3) gb174 (Nat.le_of_eq hg.symm)) hb); replace HO_26 := Aside0.mk (Kd.R_below (Kd.R_elderB (kR HO_26) gb174 (Nat.le_of_eq hg.symm)) hb); replace HB := bst hb; clear hb hbox hg; obtain ⟨hcz16_0, hcz16_1, hcz16_2, hcz16_3, hcz16_4, hcz16_5, hfz16_0, hfz16_1, hfz16_2, hfz16_3, hfz16_4, hfz16_5⟩ := bc6 BK174))
           repeat (go_quiet (first | ((with_reducible refine gate_dst (N := 7) rfl ?_); (try (refine gate_guard (by rfl) ?_; dsimp only)); refine bx 7 (cs := #[.int .i64 0, .string (⟨#[]⟩ : ByteArray), .int .i64 0, .int .u32 0, .int .i64 0, .int .i64 0]) (t := 33) (h := ?_); intro gb174 hg w15 hbox hb; have BK174 := Aside0.mk hbox; have GW174 : Aside0 (w.heap.size ≤ gb174) := bge hg; have GE174 : Aside0 (w.heap.size ≤ gb174) := bge hg; replace HO_3 := Aside0.mk (Kd.R_below (Kd.R_elderB (kR HO_3) gb174 (Nat.le_of_eq hg.symm)) hb); replace HO_26 := Aside0.mk (Kd.R_below (Kd.R_elderB (kR HO_26) gb174 (Nat.le_of_eq hg.symm)) hb); replace HB := bst hb; clear hb hbox hg; obtain ⟨hcz16_0, hcz16_1, hcz16_2, hcz16_3, hcz16_4, hcz16_5, hfz16_0, hfz16_1, hfz16_2, hfz16_3, hfz16_4, hfz16_5⟩ := bc6 BK174)); try go_wp2_with (first | ((with_reducible refine gate_dst (N := 7) rfl ?_); (try (refine gate_guard (by rfl) ?_; dsimp only)); refine bx 7 (cs := #[.int .i64 0, .string (⟨#[]⟩ : ByteArray), .int .i64 0, .int .u32 0, .int .i64 0, .int .i64 0]) (t := 33) (h := ?_); intro gb174 hg w15 hbox hb; have BK174 := Aside0.mk hbox; have GW174 : Aside0 (w.heap.size ≤ gb174) := bge hg; have GE174 : Aside0 (w.heap.size ≤ gb174) := bge hg; replace HO_3 := Aside0.mk (Kd.R_below (Kd.R_elderB (kR HO_3) gb174 (Nat.le_of_eq hg.symm)) hb); replace HO_26 := Aside0.mk (Kd.R_below (Kd.R_elderB (kR HO_26) gb174 (Nat.le_of_eq hg.symm)) hb); replace HB := bst hb; clear hb hbox hg; obtain ⟨hcz16_0, hcz16_1, hcz16_2, hcz16_3, hcz16_4, hcz16_5, hfz16_0, hfz16_1, hfz16_2, hfz16_3, hfz16_4, hfz16_5⟩ := bc6 BK174)))
           go_roundg k1
           case measure => have := HK1.out; omega
           case rel => exact ⟨((x5_1 ++ ((rd_T33 t168 x28_1).f1)) ++ (⟨#[32]⟩ : ByteArray)), (wrap64 (x28_1 + 1)), (by first | rfl | (simp; done) | (simp [*]; done)), (by first | rfl | (simp; done) | (simp [*]; done)), H', ⟨by have := HK1.out; omega⟩, ⟨by (with_reducible repeat (first | apply Kd.R_alloc | apply Kd.R_drewN | apply Kd.R_drew)); exact Kd.R_mono (Kd.R_far (p := ⟨gb174, 5, none⟩) (Kd.R_far (p := ⟨gb174, 4, none⟩) (Kd.R_far (p := ⟨gb174, 3, none⟩) (Kd.R_far (p := ⟨gb174, 2, none⟩) (Kd.R_far (p := ⟨gb174, 1, none⟩) (Kd.R_far (p := ⟨gb174, 0, none⟩) (Kd.R_mono HO_3.out (fun k_ hk => (⟨hk, hk.2⟩ : _ ∧ k_ ≠ gb174))) (fun _ hk => hk.2) (.int .i64 ((rd_T33 t168 x28_1).f0))) (fun _ hk => hk.2) (.string ((rd_T33 t168 x28_1).f1))) (fun _ hk => hk.2) (.int .i64 ((rd_T33 t168 x28_1).f2))) (fun _ hk => hk.2) (.int .u32 ((rd_T33 t168 x28_1).f3.f0))) (fun _ hk => hk.2) (.int .i64 ((rd_T33 t168 x28_1).f3.f1))) (fun _ hk => hk.2) (.int .i64 ((rd_T33 t168 x28_1).f4))) (fun _ hk => trivial)⟩, ⟨by (with_reducible repeat (first | apply Kd.R_alloc | apply Kd.R_drewN | apply Kd.R_drew)); exact Kd.R_mono (Kd.R_far (p := ⟨gb174, 5, none⟩) (Kd.R_far (p := ⟨gb174, 4, none⟩) (Kd.R_far (p := ⟨gb174, 3, none⟩) (Kd.R_far (p := ⟨gb174, 2, none⟩) (Kd.R_far (p := ⟨gb174, 1, none⟩) (Kd.R_far (p := ⟨gb174, 0, none⟩) (Kd.R_mono HO_26.out (fun k_ hk => (⟨hk, hk.2⟩ : _ ∧ k_ ≠ gb174))) (fun _ hk => hk.2) (.int .i64 ((rd_T33 t168 x28_1).f0))) (fun _ hk => hk.2) (.string ((rd_T33 t168 x28_1).f1))) (fun _ hk => hk.2) (.int .i64 ((rd_T33 t168 x28_1).f2))) (fun _ hk => hk.2) (.int .u32 ((rd_T33 t168 x28_1).f3.f0))) (fun _ hk => hk.2) (.int .i64 ((rd_T33 t168 x28_1).f3.f1))) (fun _ hk => hk.2) (.int .i64 ((rd_T33 t168 x28_1).f4))) (fun _ hk => trivial)⟩, ⟨by repeat (first | (with_reducible first | exact HB.out | apply below_alloc | apply pw_below_drewN | apply below_drew1 | refine below_set ?_ GE174.out) | exact HB.out)⟩⟩
          ·rw [if_neg c14] at H
           exact absurd H (by simp)
         ·rw [if_neg c13] at H
          exact absurd H (by simp)
        ·rw [if_neg c12] at H
         exact absurd H (by simp)
       ·rw [if_neg c11] at H
        exact absurd H (by simp)
      ·rw [if_neg c10] at H
       have c10b0 := decide_eq_false c10
       clear c10
       replace H := Option.bind_eq_some_iff.mp H
       obtain ⟨⟨t175, t176⟩, A170, H⟩ := H
       replace H : (if t176.isNone = true then (maquettelaw06_TokenBack.j1 k1 t168 t175 ((t175.length : Int) != (t168.length : Int))) else (maquettelaw06_TokenBack.j1 k1 t168 t175 true)) = some r := H
       have A17 := Aside0.mk A170
       clear A170
       have HC18 := Aside0.mk H
       clear H
       go_upto_region 15 with (first | (go_at_call 9; (with_reducible refine (token_Cut.calls k1 x5_1 t175 t176 _ A17.out (Go.Proofs.YthodilggomedgaaDoor.Inv.ivb hInv)).mono ?_); rintro e w19 ⟨v177, rfl, ho0, hb⟩; have HO178 := Aside0.mk (Kd.R_lower (Kd.R_new' (Kd.R_new' ho0 (Kd.R_lt (kR HO_3))) (Kd.R_lt (kR HO_26))) (below_size bel)); replace HO_3 := Aside0.mk (Kd.R_elder' (kR HO_3) (Kd.R_base ho0) hb); replace HO_26 := Aside0.mk (Kd.R_elder' (kR HO_26) (Kd.R_base ho0) hb); replace HB := bst hb; (try clear hb); (try clear hb2); (try clear hk); (try clear hi); (try clear ho0); (try simp only [errW_none, errW_some])))
       repeat (go_quiet (first | (go_at_call 9; (with_reducible refine (token_Cut.calls k1 x5_1 t175 t176 _ A17.out (Go.Proofs.YthodilggomedgaaDoor.Inv.ivb hInv)).mono ?_); rintro e w19 ⟨v177, rfl, ho0, hb⟩; have HO178 := Aside0.mk (Kd.R_lower (Kd.R_new' (Kd.R_new' ho0 (Kd.R_lt (kR HO_3))) (Kd.R_lt (kR HO_26))) (below_size bel)); replace HO_3 := Aside0.mk (Kd.R_elder' (kR HO_3) (Kd.R_base ho0) hb); replace HO_26 := Aside0.mk (Kd.R_elder' (kR HO_26) (Kd.R_base ho0) hb); replace HB := bst hb; (try clear hb); (try clear hb2); (try clear hk); (try clear hi); (try clear ho0); (try simp only [errW_none, errW_some]))); go_upto_region 15 with (first | (go_at_call 9; (with_reducible refine (token_Cut.calls k1 x5_1 t175 t176 _ A17.out (Go.Proofs.YthodilggomedgaaDoor.Inv.ivb hInv)).mono ?_); rintro e w19 ⟨v177, rfl, ho0, hb⟩; have HO178 := Aside0.mk (Kd.R_lower (Kd.R_new' (Kd.R_new' ho0 (Kd.R_lt (kR HO_3))) (Kd.R_lt (kR HO_26))) (below_size bel)); replace HO_3 := Aside0.mk (Kd.R_elder' (kR HO_3) (Kd.R_base ho0) hb); replace HO_26 := Aside0.mk (Kd.R_elder' (kR HO_26) (Kd.R_base ho0) hb); replace HB := bst hb; (try clear hb); (try clear hb2); (try clear hk); (try clear hi); (try clear ho0); (try simp only [errW_none, errW_some]))))
       (try simp only [Act.put, List.setIfInBounds_toArray, List.set_cons_zero, List.set_cons_succ])
       go_cut [51] (fun v51 wc => ∃ (kq : Nat) (x51_17 : Bool), v51 = .bool x51_17 ∧ Aside0 (maquettelaw06_TokenBack.j1 kq t168 t175 x51_17 = some r) ∧ Aside0 (kq ≤ k1) ∧ Aside0 (Kd.R k33 33 wc w.heap.size (fun k_ => some k_ ≠ (v177 : Value).ownBlock) (.slice Ao9 t168.length co9) t168) ∧ Aside0 (Kd.R k33 33 wc w.heap.size (fun k_ => some k_ ≠ ((.slice Ao9 t168.length co9) : Value).ownBlock) v177 t175) ∧ Aside0 (Below w.heap.size w wc))
       case first =>
        have H := HC18.out
        clear HC18
        rcases t176 with _ | q179
        ·have H1 : (maquettelaw06_TokenBack.j1 k1 t168 t175 ((t175.length : Int) != (t168.length : Int))) = some r := by rw [if_pos (show (none : Option Int).isNone = true by rfl)] at H; exact H
         clear H
         have H := H1
         clear H1
         try simp only [errW_none, errW_some]
         have H' := Aside0.mk H
         clear H
         obtain ⟨Ao20, co20, eo20⟩ := Kd.R_slice HO178.out
         subst eo20
         go_wp2
         repeat (go_quiet (fail); try go_wp2)
         go_meet
         case rel => exact ⟨_, (((t175.length : Int) != (t168.length : Int))), (by first | rfl | (simp; done) | (simp [*]; done)), H', ⟨by have := HK1.out; first | omega | exact Nat.le_refl _⟩, ⟨by (with_reducible repeat (first | apply Kd.R_alloc | apply Kd.R_drewN | apply Kd.R_drew)); exact Kd.R_mono HO_3.out (fun _ hk => hk.2)⟩, ⟨by (with_reducible repeat (first | apply Kd.R_alloc | apply Kd.R_drewN | apply Kd.R_drew)); exact Kd.R_mono HO178.out (fun _ hk => hk.1.2)⟩, ⟨by repeat (first | (with_reducible first | exact HB.out | apply below_alloc | apply pw_below_drewN | apply below_drew1) | exact HB.out)⟩⟩
        ·have H1 : (maquettelaw06_TokenBack.j1 k1 t168 t175 true) = some r := by rw [if_neg (show ¬ (some q179).isNone = true by simp)] at H; exact H
         clear H
         have H := H1
         clear H1
         try simp only [errW_none, errW_some]
         have H' := Aside0.mk H
         clear H
         go_wp2
         repeat (go_quiet (fail); try go_wp2)
         go_meet
         case rel => exact ⟨_, (true), (by first | rfl | (simp; done) | (simp [*]; done)), H', ⟨by have := HK1.out; first | omega | exact Nat.le_refl _⟩, ⟨by (with_reducible repeat (first | apply Kd.R_alloc | apply Kd.R_drewN | apply Kd.R_drew)); exact Kd.R_mono HO_3.out (fun _ hk => hk.2)⟩, ⟨by (with_reducible repeat (first | apply Kd.R_alloc | apply Kd.R_drewN | apply Kd.R_drew)); exact Kd.R_mono HO178.out (fun _ hk => hk.1.2)⟩, ⟨by repeat (first | (with_reducible first | exact HB.out | apply below_alloc | apply pw_below_drewN | apply below_drew1) | exact HB.out)⟩⟩
       case rest =>
        clear HC18
        try clear c1
        try clear p1
        try clear q1 q1
        try clear hx1
        try clear p2 p2
        try clear c3
        try clear c4
        try clear c4b0
        try clear c4b1
        try clear p6
        try clear c10
        try clear c10b0
        try clear c11
        try clear c11b0
        try clear c12
        try clear c12b0
        try clear c13
        try clear c13b0
        try clear c13b1
        try clear c13b2
        try clear c14
        try clear c14b0
        try clear c14b1
        try clear c14b2
        try clear p17
        try clear q17
        try clear hx17
        try clear hcz16_0 hcz16_1 hcz16_2 hcz16_3 hcz16_4 hcz16_5 hfz16_0 hfz16_1 hfz16_2 hfz16_3 hfz16_4 hfz16_5
        try clear hx173_0
        try clear hx173_1
        try clear hx173_2
        try clear hx173_3
        try clear hx173_4
        try clear hx173_5
        try clear p173
        try clear q172
        try clear q173
        try clear q179
        obtain ⟨kq, x51_17, rfl, HA, HJ17, HO_3, HO_8, HB⟩ := hcut
        cases kq with
        | zero => exact absurd HA.out (by simp [maquettelaw06_TokenBack.j1])
        | succ kj17 =>
         have H := HA.out
         clear HA
         simp only [maquettelaw06_TokenBack.j1] at H
         by_cases c21 : x51_17 = true
         ·subst c21
          have H1 : (some false) = some r := by rw [if_pos rfl] at H; exact H
          clear H
          have H := H1
          clear H1
          obtain rfl := Option.some.inj H
          go_wp2
          repeat (go_quiet (fail); try go_wp2)
          go_ret
          exact ⟨by first | rfl | (simp [errW_none, errW_some] <;> rfl) | (simp [*, errW_none, errW_some] <;> rfl), by repeat (first | (with_reducible first | exact HB.out | apply below_alloc | apply pw_below_drewN | apply below_drew1) | exact HB.out)⟩
         ·replace c21 := Bool.eq_false_iff.mpr c21
          subst c21
          have H1 : (maquettelaw06_TokenBack.l1 kj17 t168 t175 (t168.length : Int) 0) = some r := by rw [if_neg (show ¬ (false = true) by decide)] at H; exact H
          clear H
          have H := H1
          clear H1
          have H' := Aside0.mk H
          clear H
          go_wp2
          repeat (go_quiet (fail); try go_wp2)
          go_loopg [54] kj17 (fun kq v54 w' => ∃ (x54_3 : Int), v54 = .int .i64 x54_3 ∧ Aside0 (maquettelaw06_TokenBack.l1 kq t168 t175 (t168.length : Int) x54_3 = some r) ∧ Aside0 (kq ≤ kj17) ∧ Aside0 (Kd.R k33 33 w' w.heap.size (fun k_ => some k_ ≠ (v177 : Value).ownBlock) (.slice Ao9 t168.length co9) t168) ∧ Aside0 (Kd.R k33 33 w' w.heap.size (fun k_ => some k_ ≠ ((.slice Ao9 t168.length co9) : Value).ownBlock) v177 t175) ∧ Aside0 (Below w.heap.size w w'))
          case atStart => exact ⟨(0), (by first | rfl | (simp; done) | (simp [*]; done)), H', ⟨Nat.le_refl _⟩, ⟨by (with_reducible repeat (first | apply Kd.R_alloc | apply Kd.R_drewN | apply Kd.R_drew)); exact HO_3.out⟩, ⟨by (with_reducible repeat (first | apply Kd.R_alloc | apply Kd.R_drewN | apply Kd.R_drew)); exact HO_8.out⟩, ⟨by repeat (first | (with_reducible first | exact HB.out | apply below_alloc | apply pw_below_drewN | apply below_drew1) | exact HB.out)⟩⟩
          case round =>
           clear H'
           try clear c1
           try clear p1 p1
           try clear q1 q1
           try clear hx1
           try clear c2
           try clear p2 p2
           try clear c3
           try clear c4
           try clear c4b0
           try clear c4b1
           try clear p6 p6
           try clear c10
           try clear c10b0
           try clear c11
           try clear c11b0
           try clear c12
           try clear c12b0
           try clear c13
           try clear c13b0
           try clear c13b1
           try clear c13b2
           try clear c14
           try clear c14b0
           try clear c14b1
           try clear c14b2
           try clear p17 p17
           try clear q17 q17
           try clear hx17
           try clear c21
           try clear hcz16_0 hcz16_1 hcz16_2 hcz16_3 hcz16_4 hcz16_5 hfz16_0 hfz16_1 hfz16_2 hfz16_3 hfz16_4 hfz16_5
           try clear hx173_0
           try clear hx173_1
           try clear hx173_2
           try clear hx173_3
           try clear hx173_4
           try clear hx173_5
           try clear p173
           try clear q172
           try clear q173
           try clear q179
           obtain ⟨x54_3, rfl, HA, HK3, HO_3, HO_8, HB⟩ := hrel
           cases gk with
           | zero => exact absurd HA.out (by simp [maquettelaw06_TokenBack.l1])
           | succ k3 =>
            have H := HA.out
            clear HA
            simp only [maquettelaw06_TokenBack.l1] at H
            by_cases c22 : x54_3 < (t168.length : Int)
            ·rw [if_pos c22] at H
             have c22b0 := decide_eq_true c22
             clear c22
             by_cases c23 : 0 ≤ x54_3
             ·rw [if_pos c23] at H
              have c23b0 := decide_eq_true c23
              clear c23
              by_cases c24 : x54_3 < (t168.length : Int)
              ·rw [if_pos c24] at H
               have c24b0 := decide_eq_true c24
               clear c24
               by_cases c25 : x54_3 < (t175.length : Int)
               ·rw [if_pos c25] at H
                have c25b0 := decide_eq_true c25
                clear c25
                by_cases c26 : ((rd_T33 t168 x54_3).f0) = ((rd_T33 t175 x54_3).f0)
                ·rw [if_pos c26] at H
                 have c26b0 : (((rd_T33 t168 x54_3).f0) == ((rd_T33 t175 x54_3).f0)) = true := beq_iff_eq.mpr c26
                 have c26b1 : (((rd_T33 t168 x54_3).f0) != ((rd_T33 t175 x54_3).f0)) = false := bne_eq_false_iff_eq.mpr c26
                 clear c26
                 by_cases c27 : ((rd_T33 t168 x54_3).f1).toList = ((rd_T33 t175 x54_3).f1).toList
                 ·rw [if_pos c27] at H
                  have c27b0 : (((rd_T33 t168 x54_3).f1).toList == ((rd_T33 t175 x54_3).f1).toList) = true := beq_iff_eq.mpr c27
                  have c27b1 : (((rd_T33 t168 x54_3).f1).toList != ((rd_T33 t175 x54_3).f1).toList) = false := bne_eq_false_iff_eq.mpr c27
                  clear c27
                  by_cases c28 : ((rd_T33 t168 x54_3).f2) = ((rd_T33 t175 x54_3).f2)
                  ·rw [if_pos c28] at H
                   have c28b0 : (((rd_T33 t168 x54_3).f2) == ((rd_T33 t175 x54_3).f2)) = true := beq_iff_eq.mpr c28
                   have c28b1 : (((rd_T33 t168 x54_3).f2) != ((rd_T33 t175 x54_3).f2)) = false := bne_eq_false_iff_eq.mpr c28
                   clear c28
                   by_cases c29 : (!(((rd_T33 t168 x54_3).f3.f0) == ((rd_T33 t175 x54_3).f3.f0)) || (!(((rd_T33 t168 x54_3).f3.f1) == ((rd_T33 t175 x54_3).f3.f1)))) = true
                   ·rw [if_pos c29] at H
                    have c29b0 : (!(((rd_T33 t168 x54_3).f3.f0) == ((rd_T33 t175 x54_3).f3.f0)) || (!(((rd_T33 t168 x54_3).f3.f1) == ((rd_T33 t175 x54_3).f3.f1)))) = true := c29
                    clear c29
                    obtain rfl := Option.some.inj H
                    have p180 : 0 ≤ (x54_3 : Int) := of_decide_eq_true (by first | (with_reducible assumption) | assumption)
                    have q180 : x54_3 < (t168.length : Int) := of_decide_eq_true (by first | (with_reducible assumption) | assumption)
                    obtain ⟨ad180, e180, hx180_0, hx180_1, hx180_2, hx180_3, hx180_4, hx180_5⟩ := at_T33 (Kd.R_reads' HO_3.out).2.2 x54_3 p180 q180
                    cases e180
                    replace p180 := eq_true p180
                    replace q180 := eq_true q180
                    obtain ⟨Ao30, co30, eo30⟩ := Kd.R_slice HO_8.out
                    subst eo30
                    have p181 : 0 ≤ (x54_3 : Int) := of_decide_eq_true (by first | (with_reducible assumption) | assumption)
                    have q181 : x54_3 < (t175.length : Int) := of_decide_eq_true (by first | (with_reducible assumption) | assumption)
                    obtain ⟨ad181, e181, hx181_0, hx181_1, hx181_2, hx181_3, hx181_4, hx181_5⟩ := at_T33 (Kd.R_reads' HO_8.out).2.2 x54_3 p181 q181
                    cases e181
                    replace p181 := eq_true p181
                    replace q181 := eq_true q181
                    have p182 : 0 ≤ (x54_3 : Int) := of_decide_eq_true (by first | (with_reducible assumption) | assumption)
                    have q182 : x54_3 < (t168.length : Int) := of_decide_eq_true (by first | (with_reducible assumption) | assumption)
                    obtain ⟨ad182, e182, hx182_0, hx182_1, hx182_2, hx182_3, hx182_4, hx182_5⟩ := at_T33 (Kd.R_reads' HO_3.out).2.2 x54_3 p182 q182
                    obtain rfl : ad180 = ad182 := (by injection e182)
                    replace p182 := eq_true p182
                    replace q182 := eq_true q182
                    have p183 : 0 ≤ (x54_3 : Int) := of_decide_eq_true (by first | (with_reducible assumption) | assumption)
                    have q183 : x54_3 < (t175.length : Int) := of_decide_eq_true (by first | (with_reducible assumption) | assumption)
                    obtain ⟨ad183, e183, hx183_0, hx183_1, hx183_2, hx183_3, hx183_4, hx183_5⟩ := at_T33 (Kd.R_reads' HO_8.out).2.2 x54_3 p183 q183
                    obtain rfl : ad181 = ad183 := (by injection e183)
                    replace p183 := eq_true p183
                    replace q183 := eq_true q183
                    have p184 : 0 ≤ (x54_3 : Int) := of_decide_eq_true (by first | (with_reducible assumption) | assumption)
                    have q184 : x54_3 < (t168.length : Int) := of_decide_eq_true (by first | (with_reducible assumption) | assumption)
                    obtain ⟨ad184, e184, hx184_0, hx184_1, hx184_2, hx184_3, hx184_4, hx184_5⟩ := at_T33 (Kd.R_reads' HO_3.out).2.2 x54_3 p184 q184
                    obtain rfl : ad180 = ad184 := (by injection e184)
                    replace p184 := eq_true p184
                    replace q184 := eq_true q184
                    have p185 : 0 ≤ (x54_3 : Int) := of_decide_eq_true (by first | (with_reducible assumption) | assumption)
                    have q185 : x54_3 < (t175.length : Int) := of_decide_eq_true (by first | (with_reducible assumption) | assumption)
                    obtain ⟨ad185, e185, hx185_0, hx185_1, hx185_2, hx185_3, hx185_4, hx185_5⟩ := at_T33 (Kd.R_reads' HO_8.out).2.2 x54_3 p185 q185
                    obtain rfl : ad181 = ad185 := (by injection e185)
                    replace p185 := eq_true p185
                    replace q185 := eq_true q185
                    have p186 : 0 ≤ (x54_3 : Int) := of_decide_eq_true (by first | (with_reducible assumption) | assumption)
                    have q186 : x54_3 < (t168.length : Int) := of_decide_eq_true (by first | (with_reducible assumption) | assumption)
                    obtain ⟨ad186, e186, hx186_0, hx186_1, hx186_2, hx186_3, hx186_4, hx186_5⟩ := at_T33 (Kd.R_reads' HO_3.out).2.2 x54_3 p186 q186
                    obtain rfl : ad180 = ad186 := (by injection e186)
                    replace p186 := eq_true p186
                    replace q186 := eq_true q186
                    have p187 : 0 ≤ (x54_3 : Int) := of_decide_eq_true (by first | (with_reducible assumption) | assumption)
                    have q187 : x54_3 < (t175.length : Int) := of_decide_eq_true (by first | (with_reducible assumption) | assumption)
                    obtain ⟨ad187, e187, hx187_0, hx187_1, hx187_2, hx187_3, hx187_4, hx187_5⟩ := at_T33 (Kd.R_reads' HO_8.out).2.2 x54_3 p187 q187
                    obtain rfl : ad181 = ad187 := (by injection e187)
                    replace p187 := eq_true p187
                    replace q187 := eq_true q187
                    go_wp2
                    repeat (go_quiet (fail); try go_wp2)
                    go_ret
                    exact ⟨by first | rfl | (simp [errW_none, errW_some] <;> rfl) | (simp [*, errW_none, errW_some] <;> rfl), by repeat (first | (with_reducible first | exact HB.out | apply below_alloc | apply pw_below_drewN | apply below_drew1) | exact HB.out)⟩
                   ·rw [if_neg c29] at H
                    have c29b0 : (!(((rd_T33 t168 x54_3).f3.f0) == ((rd_T33 t175 x54_3).f3.f0)) || (!(((rd_T33 t168 x54_3).f3.f1) == ((rd_T33 t175 x54_3).f3.f1)))) = false := by simpa using c29
                    clear c29
                    have H' := Aside0.mk H
                    clear H
                    have p180 : 0 ≤ (x54_3 : Int) := of_decide_eq_true (by first | (with_reducible assumption) | assumption)
                    have q180 : x54_3 < (t168.length : Int) := of_decide_eq_true (by first | (with_reducible assumption) | assumption)
                    obtain ⟨ad180, e180, hx180_0, hx180_1, hx180_2, hx180_3, hx180_4, hx180_5⟩ := at_T33 (Kd.R_reads' HO_3.out).2.2 x54_3 p180 q180
                    cases e180
                    replace p180 := eq_true p180
                    replace q180 := eq_true q180
                    obtain ⟨Ao31, co31, eo31⟩ := Kd.R_slice HO_8.out
                    subst eo31
                    have p181 : 0 ≤ (x54_3 : Int) := of_decide_eq_true (by first | (with_reducible assumption) | assumption)
                    have q181 : x54_3 < (t175.length : Int) := of_decide_eq_true (by first | (with_reducible assumption) | assumption)
                    obtain ⟨ad181, e181, hx181_0, hx181_1, hx181_2, hx181_3, hx181_4, hx181_5⟩ := at_T33 (Kd.R_reads' HO_8.out).2.2 x54_3 p181 q181
                    cases e181
                    replace p181 := eq_true p181
                    replace q181 := eq_true q181
                    have p182 : 0 ≤ (x54_3 : Int) := of_decide_eq_true (by first | (with_reducible assumption) | assumption)
                    have q182 : x54_3 < (t168.length : Int) := of_decide_eq_true (by first | (with_reducible assumption) | assumption)
                    obtain ⟨ad182, e182, hx182_0, hx182_1, hx182_2, hx182_3, hx182_4, hx182_5⟩ := at_T33 (Kd.R_reads' HO_3.out).2.2 x54_3 p182 q182
                    obtain rfl : ad180 = ad182 := (by injection e182)
                    replace p182 := eq_true p182
                    replace q182 := eq_true q182
                    have p183 : 0 ≤ (x54_3 : Int) := of_decide_eq_true (by first | (with_reducible assumption) | assumption)
                    have q183 : x54_3 < (t175.length : Int) := of_decide_eq_true (by first | (with_reducible assumption) | assumption)
                    obtain ⟨ad183, e183, hx183_0, hx183_1, hx183_2, hx183_3, hx183_4, hx183_5⟩ := at_T33 (Kd.R_reads' HO_8.out).2.2 x54_3 p183 q183
                    obtain rfl : ad181 = ad183 := (by injection e183)
                    replace p183 := eq_true p183
                    replace q183 := eq_true q183
                    have p184 : 0 ≤ (x54_3 : Int) := of_decide_eq_true (by first | (with_reducible assumption) | assumption)
                    have q184 : x54_3 < (t168.length : Int) := of_decide_eq_true (by first | (with_reducible assumption) | assumption)
                    obtain ⟨ad184, e184, hx184_0, hx184_1, hx184_2, hx184_3, hx184_4, hx184_5⟩ := at_T33 (Kd.R_reads' HO_3.out).2.2 x54_3 p184 q184
                    obtain rfl : ad180 = ad184 := (by injection e184)
                    replace p184 := eq_true p184
                    replace q184 := eq_true q184
                    have p185 : 0 ≤ (x54_3 : Int) := of_decide_eq_true (by first | (with_reducible assumption) | assumption)
                    have q185 : x54_3 < (t175.length : Int) := of_decide_eq_true (by first | (with_reducible assumption) | assumption)
                    obtain ⟨ad185, e185, hx185_0, hx185_1, hx185_2, hx185_3, hx185_4, hx185_5⟩ := at_T33 (Kd.R_reads' HO_8.out).2.2 x54_3 p185 q185
                    obtain rfl : ad181 = ad185 := (by injection e185)
                    replace p185 := eq_true p185
                    replace q185 := eq_true q185
                    have p186 : 0 ≤ (x54_3 : Int) := of_decide_eq_true (by first | (with_reducible assumption) | assumption)
                    have q186 : x54_3 < (t168.length : Int) := of_decide_eq_true (by first | (with_reducible assumption) | assumption)
                    obtain ⟨ad186, e186, hx186_0, hx186_1, hx186_2, hx186_3, hx186_4, hx186_5⟩ := at_T33 (Kd.R_reads' HO_3.out).2.2 x54_3 p186 q186
                    obtain rfl : ad180 = ad186 := (by injection e186)
                    replace p186 := eq_true p186
                    replace q186 := eq_true q186
                    have p187 : 0 ≤ (x54_3 : Int) := of_decide_eq_true (by first | (with_reducible assumption) | assumption)
                    have q187 : x54_3 < (t175.length : Int) := of_decide_eq_true (by first | (with_reducible assumption) | assumption)
                    obtain ⟨ad187, e187, hx187_0, hx187_1, hx187_2, hx187_3, hx187_4, hx187_5⟩ := at_T33 (Kd.R_reads' HO_8.out).2.2 x54_3 p187 q187
                    obtain rfl : ad181 = ad187 := (by injection e187)
                    replace p187 := eq_true p187
                    replace q187 := eq_true q187
                    go_wp2
                    repeat (go_quiet (fail); try go_wp2)
                    go_roundg k3
                    case measure => have := HK1.out; have := HJ17.out; have := HK3.out; omega
                    case rel => exact ⟨(wrap64 (x54_3 + 1)), (by first | rfl | (simp; done) | (simp [*]; done)), H', ⟨by have := HK1.out; have := HJ17.out; have := HK3.out; omega⟩, ⟨by (with_reducible repeat (first | apply Kd.R_alloc | apply Kd.R_drewN | apply Kd.R_drew)); exact HO_3.out⟩, ⟨by (with_reducible repeat (first | apply Kd.R_alloc | apply Kd.R_drewN | apply Kd.R_drew)); exact HO_8.out⟩, ⟨by repeat (first | (with_reducible first | exact HB.out | apply below_alloc | apply pw_below_drewN | apply below_drew1) | exact HB.out)⟩⟩
                  ·rw [if_neg c28] at H
                   have c28b0 : (((rd_T33 t168 x54_3).f2) == ((rd_T33 t175 x54_3).f2)) = false := beq_eq_false_iff_ne.mpr c28
                   have c28b1 : (((rd_T33 t168 x54_3).f2) != ((rd_T33 t175 x54_3).f2)) = true := bne_iff_ne.mpr c28
                   obtain rfl := Option.some.inj H
                   have p180 : 0 ≤ (x54_3 : Int) := of_decide_eq_true (by first | (with_reducible assumption) | assumption)
                   have q180 : x54_3 < (t168.length : Int) := of_decide_eq_true (by first | (with_reducible assumption) | assumption)
                   obtain ⟨ad180, e180, hx180_0, hx180_1, hx180_2, hx180_3, hx180_4, hx180_5⟩ := at_T33 (Kd.R_reads' HO_3.out).2.2 x54_3 p180 q180
                   cases e180
                   replace p180 := eq_true p180
                   replace q180 := eq_true q180
                   obtain ⟨Ao32, co32, eo32⟩ := Kd.R_slice HO_8.out
                   subst eo32
                   have p181 : 0 ≤ (x54_3 : Int) := of_decide_eq_true (by first | (with_reducible assumption) | assumption)
                   have q181 : x54_3 < (t175.length : Int) := of_decide_eq_true (by first | (with_reducible assumption) | assumption)
                   obtain ⟨ad181, e181, hx181_0, hx181_1, hx181_2, hx181_3, hx181_4, hx181_5⟩ := at_T33 (Kd.R_reads' HO_8.out).2.2 x54_3 p181 q181
                   cases e181
                   replace p181 := eq_true p181
                   replace q181 := eq_true q181
                   have p182 : 0 ≤ (x54_3 : Int) := of_decide_eq_true (by first | (with_reducible assumption) | assumption)
                   have q182 : x54_3 < (t168.length : Int) := of_decide_eq_true (by first | (with_reducible assumption) | assumption)
                   obtain ⟨ad182, e182, hx182_0, hx182_1, hx182_2, hx182_3, hx182_4, hx182_5⟩ := at_T33 (Kd.R_reads' HO_3.out).2.2 x54_3 p182 q182
                   obtain rfl : ad180 = ad182 := (by injection e182)
                   replace p182 := eq_true p182
                   replace q182 := eq_true q182
                   have p183 : 0 ≤ (x54_3 : Int) := of_decide_eq_true (by first | (with_reducible assumption) | assumption)
                   have q183 : x54_3 < (t175.length : Int) := of_decide_eq_true (by first | (with_reducible assumption) | assumption)
                   obtain ⟨ad183, e183, hx183_0, hx183_1, hx183_2, hx183_3, hx183_4, hx183_5⟩ := at_T33 (Kd.R_reads' HO_8.out).2.2 x54_3 p183 q183
                   obtain rfl : ad181 = ad183 := (by injection e183)
                   replace p183 := eq_true p183
                   replace q183 := eq_true q183
                   have p184 : 0 ≤ (x54_3 : Int) := of_decide_eq_true (by first | (with_reducible assumption) | assumption)
                   have q184 : x54_3 < (t168.length : Int) := of_decide_eq_true (by first | (with_reducible assumption) | assumption)
                   obtain ⟨ad184, e184, hx184_0, hx184_1, hx184_2, hx184_3, hx184_4, hx184_5⟩ := at_T33 (Kd.R_reads' HO_3.out).2.2 x54_3 p184 q184
                   obtain rfl : ad180 = ad184 := (by injection e184)
                   replace p184 := eq_true p184
                   replace q184 := eq_true q184
                   have p185 : 0 ≤ (x54_3 : Int) := of_decide_eq_true (by first | (with_reducible assumption) | assumption)
                   have q185 : x54_3 < (t175.length : Int) := of_decide_eq_true (by first | (with_reducible assumption) | assumption)
                   obtain ⟨ad185, e185, hx185_0, hx185_1, hx185_2, hx185_3, hx185_4, hx185_5⟩ := at_T33 (Kd.R_reads' HO_8.out).2.2 x54_3 p185 q185
                   obtain rfl : ad181 = ad185 := (by injection e185)
                   replace p185 := eq_true p185
                   replace q185 := eq_true q185
                   go_wp2
                   repeat (go_quiet (fail); try go_wp2)
                   go_ret
                   exact ⟨by first | rfl | (simp [errW_none, errW_some] <;> rfl) | (simp [*, errW_none, errW_some] <;> rfl), by repeat (first | (with_reducible first | exact HB.out | apply below_alloc | apply pw_below_drewN | apply below_drew1) | exact HB.out)⟩
                 ·rw [if_neg c27] at H
                  have c27b0 : (((rd_T33 t168 x54_3).f1).toList == ((rd_T33 t175 x54_3).f1).toList) = false := beq_eq_false_iff_ne.mpr c27
                  have c27b1 : (((rd_T33 t168 x54_3).f1).toList != ((rd_T33 t175 x54_3).f1).toList) = true := bne_iff_ne.mpr c27
                  obtain rfl := Option.some.inj H
                  have p180 : 0 ≤ (x54_3 : Int) := of_decide_eq_true (by first | (with_reducible assumption) | assumption)
                  have q180 : x54_3 < (t168.length : Int) := of_decide_eq_true (by first | (with_reducible assumption) | assumption)
                  obtain ⟨ad180, e180, hx180_0, hx180_1, hx180_2, hx180_3, hx180_4, hx180_5⟩ := at_T33 (Kd.R_reads' HO_3.out).2.2 x54_3 p180 q180
                  cases e180
                  replace p180 := eq_true p180
                  replace q180 := eq_true q180
                  obtain ⟨Ao33, co33, eo33⟩ := Kd.R_slice HO_8.out
                  subst eo33
                  have p181 : 0 ≤ (x54_3 : Int) := of_decide_eq_true (by first | (with_reducible assumption) | assumption)
                  have q181 : x54_3 < (t175.length : Int) := of_decide_eq_true (by first | (with_reducible assumption) | assumption)
                  obtain ⟨ad181, e181, hx181_0, hx181_1, hx181_2, hx181_3, hx181_4, hx181_5⟩ := at_T33 (Kd.R_reads' HO_8.out).2.2 x54_3 p181 q181
                  cases e181
                  replace p181 := eq_true p181
                  replace q181 := eq_true q181
                  have p182 : 0 ≤ (x54_3 : Int) := of_decide_eq_true (by first | (with_reducible assumption) | assumption)
                  have q182 : x54_3 < (t168.length : Int) := of_decide_eq_true (by first | (with_reducible assumption) | assumption)
                  obtain ⟨ad182, e182, hx182_0, hx182_1, hx182_2, hx182_3, hx182_4, hx182_5⟩ := at_T33 (Kd.R_reads' HO_3.out).2.2 x54_3 p182 q182
                  obtain rfl : ad180 = ad182 := (by injection e182)
                  replace p182 := eq_true p182
                  replace q182 := eq_true q182
                  have p183 : 0 ≤ (x54_3 : Int) := of_decide_eq_true (by first | (with_reducible assumption) | assumption)
                  have q183 : x54_3 < (t175.length : Int) := of_decide_eq_true (by first | (with_reducible assumption) | assumption)
                  obtain ⟨ad183, e183, hx183_0, hx183_1, hx183_2, hx183_3, hx183_4, hx183_5⟩ := at_T33 (Kd.R_reads' HO_8.out).2.2 x54_3 p183 q183
                  obtain rfl : ad181 = ad183 := (by injection e183)
                  replace p183 := eq_true p183
                  replace q183 := eq_true q183
                  go_wp2
                  repeat (go_quiet (fail); try go_wp2)
                  go_ret
                  exact ⟨by first | rfl | (simp [errW_none, errW_some] <;> rfl) | (simp [*, errW_none, errW_some] <;> rfl), by repeat (first | (with_reducible first | exact HB.out | apply below_alloc | apply pw_below_drewN | apply below_drew1) | exact HB.out)⟩
                ·rw [if_neg c26] at H
                 have c26b0 : (((rd_T33 t168 x54_3).f0) == ((rd_T33 t175 x54_3).f0)) = false := beq_eq_false_iff_ne.mpr c26
                 have c26b1 : (((rd_T33 t168 x54_3).f0) != ((rd_T33 t175 x54_3).f0)) = true := bne_iff_ne.mpr c26
                 obtain rfl := Option.some.inj H
                 have p180 : 0 ≤ (x54_3 : Int) := of_decide_eq_true (by first | (with_reducible assumption) | assumption)
                 have q180 : x54_3 < (t168.length : Int) := of_decide_eq_true (by first | (with_reducible assumption) | assumption)
                 obtain ⟨ad180, e180, hx180_0, hx180_1, hx180_2, hx180_3, hx180_4, hx180_5⟩ := at_T33 (Kd.R_reads' HO_3.out).2.2 x54_3 p180 q180
                 cases e180
                 replace p180 := eq_true p180
                 replace q180 := eq_true q180
                 obtain ⟨Ao34, co34, eo34⟩ := Kd.R_slice HO_8.out
                 subst eo34
                 have p181 : 0 ≤ (x54_3 : Int) := of_decide_eq_true (by first | (with_reducible assumption) | assumption)
                 have q181 : x54_3 < (t175.length : Int) := of_decide_eq_true (by first | (with_reducible assumption) | assumption)
                 obtain ⟨ad181, e181, hx181_0, hx181_1, hx181_2, hx181_3, hx181_4, hx181_5⟩ := at_T33 (Kd.R_reads' HO_8.out).2.2 x54_3 p181 q181
                 cases e181
                 replace p181 := eq_true p181
                 replace q181 := eq_true q181
                 go_wp2
                 repeat (go_quiet (fail); try go_wp2)
                 go_ret
                 exact ⟨by first | rfl | (simp [errW_none, errW_some] <;> rfl) | (simp [*, errW_none, errW_some] <;> rfl), by repeat (first | (with_reducible first | exact HB.out | apply below_alloc | apply pw_below_drewN | apply below_drew1) | exact HB.out)⟩
               ·rw [if_neg c25] at H
                exact absurd H (by simp)
              ·rw [if_neg c24] at H
               exact absurd H (by simp)
             ·rw [if_neg c23] at H
              exact absurd H (by simp)
            ·rw [if_neg c22] at H
             have c22b0 := decide_eq_false c22
             clear c22
             obtain rfl := Option.some.inj H
             go_wp2
             repeat (go_quiet (fail); try go_wp2)
             go_ret
             exact ⟨by first | rfl | (simp [errW_none, errW_some] <;> rfl) | (simp [*, errW_none, errW_some] <;> rfl), by repeat (first | (with_reducible first | exact HB.out | apply below_alloc | apply pw_below_drewN | apply below_drew1) | exact HB.out)⟩
   ·have H1 : (some ((t168.length : Int) == 0)) = some r := by rw [if_neg (show ¬ (some q172).isNone = true by simp)] at H; exact H
    clear H
    have H := H1
    clear H1
    try simp only [errW_none, errW_some]
    obtain rfl := Option.some.inj H
    go_enter Tryd.func3, Tryd.ntmps3
    go_wp2_with (first | (go_at_call 8; (with_reducible refine (maquettelaw06_awake.calls k  true _ A2.out (Go.Proofs.YthodilggomedgaaDoor.Inv.ivb hInv)).mono ?_); rintro e w35 ⟨rfl, hb⟩; replace HB := bst hb; (try clear hb); (try clear hb2); (try clear hk); (try clear hi)) | (go_at_call 9; (with_reducible refine (token_Cut.calls k a0 t168 (some q172) _ A6.out (Go.Proofs.YthodilggomedgaaDoor.Inv.ivb hInv)).mono ?_); rintro e w36 ⟨v170, rfl, ho0, hb⟩; have HO171 := Aside0.mk (Kd.R_lower ho0 (below_size bel)); replace HB := bst hb; (try clear hb); (try clear hb2); (try clear hk); (try clear hi); (try clear ho0); (try simp only [errW_none, errW_some]); obtain ⟨Ao37, co37, eo37⟩ := Kd.R_slice HO171.out; subst eo37))
    repeat (go_quiet (first | (go_at_call 8; (with_reducible refine (maquettelaw06_awake.calls k  true _ A2.out (Go.Proofs.YthodilggomedgaaDoor.Inv.ivb hInv)).mono ?_); rintro e w35 ⟨rfl, hb⟩; replace HB := bst hb; (try clear hb); (try clear hb2); (try clear hk); (try clear hi)) | (go_at_call 9; (with_reducible refine (token_Cut.calls k a0 t168 (some q172) _ A6.out (Go.Proofs.YthodilggomedgaaDoor.Inv.ivb hInv)).mono ?_); rintro e w36 ⟨v170, rfl, ho0, hb⟩; have HO171 := Aside0.mk (Kd.R_lower ho0 (below_size bel)); replace HB := bst hb; (try clear hb); (try clear hb2); (try clear hk); (try clear hi); (try clear ho0); (try simp only [errW_none, errW_some]); obtain ⟨Ao37, co37, eo37⟩ := Kd.R_slice HO171.out; subst eo37)); try go_wp2_with (first | (go_at_call 8; (with_reducible refine (maquettelaw06_awake.calls k  true _ A2.out (Go.Proofs.YthodilggomedgaaDoor.Inv.ivb hInv)).mono ?_); rintro e w35 ⟨rfl, hb⟩; replace HB := bst hb; (try clear hb); (try clear hb2); (try clear hk); (try clear hi)) | (go_at_call 9; (with_reducible refine (token_Cut.calls k a0 t168 (some q172) _ A6.out (Go.Proofs.YthodilggomedgaaDoor.Inv.ivb hInv)).mono ?_); rintro e w36 ⟨v170, rfl, ho0, hb⟩; have HO171 := Aside0.mk (Kd.R_lower ho0 (below_size bel)); replace HB := bst hb; (try clear hb); (try clear hb2); (try clear hk); (try clear hi); (try clear ho0); (try simp only [errW_none, errW_some]); obtain ⟨Ao37, co37, eo37⟩ := Kd.R_slice HO171.out; subst eo37)))
    go_ret
    exact ⟨by first | rfl | (simp [errW_none, errW_some] <;> rfl) | (simp [*, errW_none, errW_some] <;> rfl), by repeat (first | (with_reducible first | exact HB.out | apply below_alloc | apply pw_below_drewN | apply below_drew1) | exact HB.out)⟩
 ·replace c3 := Bool.eq_false_iff.mpr c3
  subst c3
  have H1 : (some false) = some r := by rw [if_neg (show ¬ (false = true) by decide)] at H; exact H
  clear H
  have H := H1
  clear H1
  obtain rfl := Option.some.inj H
  go_enter Tryd.func3, Tryd.ntmps3
  go_wp2_with (first | (go_at_call 8; (with_reducible refine (maquettelaw06_awake.calls k  false _ A2.out (Go.Proofs.YthodilggomedgaaDoor.Inv.ivb hInv)).mono ?_); rintro e w38 ⟨rfl, hb⟩; replace HB := bst hb; (try clear hb); (try clear hb2); (try clear hk); (try clear hi)))
  repeat (go_quiet (first | (go_at_call 8; (with_reducible refine (maquettelaw06_awake.calls k  false _ A2.out (Go.Proofs.YthodilggomedgaaDoor.Inv.ivb hInv)).mono ?_); rintro e w38 ⟨rfl, hb⟩; replace HB := bst hb; (try clear hb); (try clear hb2); (try clear hk); (try clear hi))); try go_wp2_with (first | (go_at_call 8; (with_reducible refine (maquettelaw06_awake.calls k  false _ A2.out (Go.Proofs.YthodilggomedgaaDoor.Inv.ivb hInv)).mono ?_); rintro e w38 ⟨rfl, hb⟩; replace HB := bst hb; (try clear hb); (try clear hb2); (try clear hk); (try clear hi))))
  go_ret
  exact ⟨by first | rfl | (simp [errW_none, errW_some] <;> rfl) | (simp [*, errW_none, errW_some] <;> rfl), by repeat (first | (with_reducible first | exact HB.out | apply below_alloc | apply pw_below_drewN | apply below_drew1) | exact HB.out)⟩

end Go.Proofs.YthodilggomedgaaDoor.PTb
