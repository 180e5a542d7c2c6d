-- Written by wip/xprint.py of this work: the printer of the kit, with contracts of this work beside it, shortened.
import Derived.Test.YtjcopneljfcfoaaDoorShort
import Derived.Test.YtjcopneljfcfoaaDoorPRawx0
import Derived.Test.YtjcopneljfcfoaaDoorPRawx11
import Derived.Test.YtjcopneljfcfoaaDoorPRawx12
import Derived.Test.YtjcopneljfcfoaaDoorPRawx17
import Derived.Test.YtjcopneljfcfoaaDoorPRawx25
namespace Go.Proofs.YtjcopneljfcfoaaDoor.PRaw
open Go.RowKit Go.Proofs.YtjcopneljfcfoaaDoor.Short Go.Proofs.YtjcopneljfcfoaaDoorW.PrintWords Go.Proofs.YtjcopneljfcfoaaDoorW.PrintLast Go.Proofs.YtjcopneljfcfoaaDoorW.PrintMore
attribute [local go_sem] max2_int min2_int max_two min_two max_three min_three max_four min_four   -- for this text's walks alone
set_option linter.unusedVariables false
set_option linter.unusedSimpArgs false

/-! ### maquettelaw07_TextConfig: function 3 -/
def maquettelaw07_TextConfig.f (k : Nat) (a0_0 : Int) (l0_1 : List Int) (l0_2 : List (List (S74))) (l0_3 : List Int) (l0_4 : List Int) (l0_5 : List Int) : Option (Bool) := (maquettelaw07_awake.f k).bind fun t242 => (if t242 = true then ((maquettelaw07_Shape_Config.f k a0_0 l0_1 l0_2 l0_3 l0_4 l0_5).bind fun bt243 => ((text_Config.f k bt243.1 bt243.2).bind fun t250 => ((maquettelaw07_Text.f k bt243.1 bt243.2).bind fun t251 => (some (t250.toList == t251.toList))))) else (some false))
theorem maquettelaw07_TextConfig.mono : ∀ a0 a1 a2 a3 a4 a5 k, LeO (maquettelaw07_TextConfig.f k a0 a1 a2 a3 a4 a5) (maquettelaw07_TextConfig.f (k + 1) a0 a1 a2 a3 a4 a5) := by
 intro a0 a1 a2 a3 a4 a5 k
 unfold maquettelaw07_TextConfig.f
 repeat' first
   | (with_reducible exact maquettelaw07_Shape_Config.mono _ _ _ _ _ _ _)
   | (with_reducible exact maquettelaw07_Text.mono _ _ _)
   | (with_reducible exact maquettelaw07_awake.mono _)
   | (with_reducible exact text_Config.mono _ _ _)
   | (with_reducible exact LeO.refl _)
   | (with_reducible exact LeO.none _)
   | (with_reducible refine LeO.ite ?_ ?_)
   | (with_reducible refine LeO.bind ?_ (fun _ => ?_))
   | exact maquettelaw07_Shape_Config.mono _ _ _ _ _ _ _
   | exact maquettelaw07_Text.mono _ _ _
   | exact maquettelaw07_awake.mono _
   | exact text_Config.mono _ _ _
   | exact LeO.none _
   | refine LeO.ite ?_ ?_
   | refine LeO.bind ?_ (fun _ => ?_)
set_option maxHeartbeats 8000000 in
set_option maxRecDepth 100000 in
theorem maquettelaw07_TextConfig.calls (k : Nat) (a0_0 : Int) (A0_1 : Option Addr) (c0_1 : Nat) (l0_1 : List Int) (A0_2 : Option Addr) (c0_2 : Nat) (l0_2 : List (List (S74))) (A0_3 : Option Addr) (c0_3 : Nat) (l0_3 : List Int) (A0_4 : Option Addr) (c0_4 : Nat) (l0_4 : List Int) (A0_5 : Option Addr) (c0_5 : Nat) (l0_5 : List Int) (r : Bool) (w : World) (hr0_1 : Kd.C (Kd.int .u8) w A0_1 l0_1.length l0_1) (hc0_1 : l0_1.length ≤ c0_1) (hr0_2 : Kd.C (Kd.slice 74 k74) w A0_2 l0_2.length l0_2) (hc0_2 : l0_2.length ≤ c0_2) (hr0_3 : Kd.C (Kd.int .u8) w A0_3 l0_3.length l0_3) (hc0_3 : l0_3.length ≤ c0_3) (hr0_4 : Kd.C (Kd.int .u8) w A0_4 l0_4.length l0_4) (hc0_4 : l0_4.length ≤ c0_4) (hr0_5 : Kd.C (Kd.int .u8) w A0_5 l0_5.length l0_5) (hc0_5 : l0_5.length ≤ c0_5) (h : maquettelaw07_TextConfig.f k a0_0 l0_1 l0_2 l0_3 l0_4 l0_5 = some r) (hInv : Go.Proofs.YtjcopneljfcfoaaDoor.Inv.Inv w) :
  Calls Tryd.prog 3 #[.agg #[.int .u8 a0_0, .slice A0_1 l0_1.length c0_1, .slice A0_2 l0_2.length c0_2, .slice A0_3 l0_3.length c0_3, .slice A0_4 l0_4.length c0_4, .slice A0_5 l0_5.length c0_5]] w fun e w' => e = .returned (.bool r) ∧ Below w.heap.size w w' := by
 have hu25 := Tryd.underlying25
 have hu30 := Tryd.underlying30
 have HR0_1 := Aside0.mk hr0_1
 have HC0_1 := Aside0.mk hc0_1
 clear hr0_1 hc0_1
 have HR0_2 := Aside0.mk hr0_2
 have HC0_2 := Aside0.mk hc0_2
 clear hr0_2 hc0_2
 have HR0_3 := Aside0.mk hr0_3
 have HC0_3 := Aside0.mk hc0_3
 clear hr0_3 hc0_3
 have HR0_4 := Aside0.mk hr0_4
 have HC0_4 := Aside0.mk hc0_4
 clear hr0_4 hc0_4
 have HR0_5 := Aside0.mk hr0_5
 have HC0_5 := Aside0.mk hc0_5
 clear hr0_5 hc0_5
 have HB := Aside0.mk (Below.refl w.heap.size w)
 have H : ((maquettelaw07_awake.f k).bind fun t242 => (if t242 = true then ((maquettelaw07_Shape_Config.f k a0_0 l0_1 l0_2 l0_3 l0_4 l0_5).bind fun bt243 => ((text_Config.f k bt243.1 bt243.2).bind fun t250 => ((maquettelaw07_Text.f k bt243.1 bt243.2).bind fun t251 => (some (t250.toList == t251.toList))))) else (some false))) = some r := h
 clear h
 replace H := Option.bind_eq_some_iff.mp H
 obtain ⟨t242, A20, H⟩ := H
 replace H : (if t242 = true then ((maquettelaw07_Shape_Config.f k a0_0 l0_1 l0_2 l0_3 l0_4 l0_5).bind fun bt243 => ((text_Config.f k bt243.1 bt243.2).bind fun t250 => ((maquettelaw07_Text.f k bt243.1 bt243.2).bind fun t251 => (some (t250.toList == t251.toList))))) else (some false)) = some r := H
 have A2 := Aside0.mk A20
 clear A20
 by_cases c3 : t242 = true
 ·subst c3
  have H1 : ((maquettelaw07_Shape_Config.f k a0_0 l0_1 l0_2 l0_3 l0_4 l0_5).bind fun bt243 => ((text_Config.f k bt243.1 bt243.2).bind fun t250 => ((maquettelaw07_Text.f k bt243.1 bt243.2).bind fun t251 => (some (t250.toList == t251.toList))))) = some r := by rw [if_pos rfl] at H; exact H
  clear H
  have H := H1
  clear H1
  replace H := Option.bind_eq_some_iff.mp H
  obtain ⟨⟨t243, t246⟩, A40, H⟩ := H
  replace H : ((text_Config.f k t243 t246).bind fun t250 => ((maquettelaw07_Text.f k t243 t246).bind fun t251 => (some (t250.toList == t251.toList)))) = some r := H
  have A4 := Aside0.mk A40
  clear A40
  replace H := Option.bind_eq_some_iff.mp H
  obtain ⟨t250, A50, H⟩ := H
  replace H : ((maquettelaw07_Text.f k t243 t246).bind fun t251 => (some (t250.toList == t251.toList))) = some r := H
  have A5 := Aside0.mk A50
  clear A50
  replace H := Option.bind_eq_some_iff.mp H
  obtain ⟨t251, A60, H⟩ := H
  replace H : (some (t250.toList == t251.toList)) = some r := H
  have A6 := Aside0.mk A60
  clear A60
  obtain rfl := Option.some.inj H
  go_enter Tryd.func3, Tryd.ntmps3
  try go_wp2_with (first | ((with_reducible refine gate_dst (N := 1) rfl ?_); refine bx 1 (cs := #[.int .u8 a0_0, .slice A0_1 l0_1.length c0_1, .slice A0_2 l0_2.length c0_2, .slice A0_3 l0_3.length c0_3, .slice A0_4 l0_4.length c0_4, .slice A0_5 l0_5.length c0_5]) (t := 25) (h := ?_); intro gb241 hg w7 hbox hb; have BK241 := Aside0.mk hbox; have GW241 : Aside0 (w.heap.size ≤ gb241) := bge hg; have GE241 : Aside0 (w.heap.size ≤ gb241) := bge hg; replace HB := bst hb; clear hb hbox hg) | ((with_reducible refine gate_dst (N := 4) rfl ?_); refine gl (some 4) Tryd.func8 #[] ?_; (with_reducible refine (maquettelaw07_awake.calls k  true _ A2.out (Go.Proofs.YtjcopneljfcfoaaDoor.Inv.ivb hInv)).mono ?_); rintro e w8 ⟨rfl, hb⟩; refine ⟨_, rfl, ?_⟩; replace BK241 := bkb BK241 hb; replace HB := bst hb; (try clear hb); (try clear hb2); (try clear hk); (try clear hi); obtain ⟨hcz9_0, hcz9_1, hcz9_2, hcz9_3, hcz9_4, hcz9_5, hfz9_0, hfz9_1, hfz9_2, hfz9_3, hfz9_4, hfz9_5⟩ := bc6 BK241) | ((with_reducible refine gate_dst (N := 7) rfl ?_); refine gl (some 7) Tryd.func9 #[.agg #[.int .u8 a0_0, .slice A0_1 l0_1.length c0_1, .slice A0_2 l0_2.length c0_2, .slice A0_3 l0_3.length c0_3, .slice A0_4 l0_4.length c0_4, .slice A0_5 l0_5.length c0_5]] ?_; (with_reducible refine (maquettelaw07_Shape_Config.calls k a0_0 _ _ l0_1 _ _ l0_2 _ _ l0_3 _ _ l0_4 _ _ l0_5 t243 t246 _ ?side1 ?side2 ?side3 ?side4 ?side5 ?side6 ?side7 ?side8 ?side9 ?side10 A4.out).mono ?_); (case side1 => exact kcb HR0_1); (case side2 => exact HC0_1.out); (case side3 => exact kcb HR0_2); (case side4 => exact HC0_2.out); (case side5 => exact kcb HR0_3); (case side6 => exact HC0_3.out); (case side7 => exact kcb HR0_4); (case side8 => exact HC0_4.out); (case side9 => exact kcb HR0_5); (case side10 => exact HC0_5.out); rintro e w10 ⟨v244, v247, rfl, ho0, ho1, hb⟩; refine ⟨_, rfl, ?_⟩; have HO245 := Aside0.mk (Kd.S_lower ho0 (below_size bel)); have HO248 := Aside0.mk (Kd.S_lower ho1 (below_size bel)); replace BK241 := bkb BK241 hb; replace HB := bst hb; (try clear hb); (try clear hb2); (try clear hk); (try clear hi); (try clear ho0); (try clear ho1)) | ((with_reducible refine gate_dst (N := 3) rfl ?_); refine bx 3 (cs := #[.slice none 0 0, .slice none 0 0]) (t := 30) (h := ?_); intro gb249 hg w11 hbox hb; have BK249 := Aside0.mk hbox; have GW249 : Aside0 (w.heap.size ≤ gb249) := bge hg; have GE249 : Aside0 (w.heap.size ≤ gb249) := bge hg; have NB241_249 := bne BK241 hg; have NB249_241 := bnf BK241 hg; replace HO245 := Aside0.mk (Kd.S_below (kS HO245) hb); replace HO248 := Aside0.mk (Kd.S_below (kS HO248) hb); replace BK241 := bkb BK241 hb; replace HB := bst hb; clear hb hbox hg; obtain ⟨Ao12, co12, eo12⟩ := Kd.S_slice HO245.out; subst eo12; have hnb13 := NB249_241.out; have hnc13 := NB241_249.out; obtain ⟨hcz14_0, hcz14_1, hfz14_0, hfz14_1⟩ := bc2 BK249; obtain ⟨Ao15, co15, eo15⟩ := Kd.S_slice HO248.out; subst eo15))
  have n0_ : Aside0 (Kd.S k36 36 ((w11.setCell ⟨gb249, 0, none⟩ (.slice Ao12 t243.length co12)).setCell ⟨gb249, 1, none⟩ (.slice Ao15 t246.length co15)) w.heap.size (fun _ => True) (.slice Ao12 t243.length co12) t243) := ⟨by (with_reducible repeat (first | apply Kd.S_alloc | apply Kd.S_drewN | apply Kd.S_drew)); exact Kd.S_mono (Kd.S_far (p := ⟨gb249, 1, none⟩) (Kd.S_far (p := ⟨gb249, 0, none⟩) (Kd.S_types HO245.out BK249.out (by decide)) (fun _ hk => hk.2) (.slice Ao12 t243.length co12)) (fun _ hk => hk.2) (.slice Ao15 t246.length co15)) (fun _ hk => trivial)⟩
  have n1_ : Aside0 (Kd.S k46 46 ((w11.setCell ⟨gb249, 0, none⟩ (.slice Ao12 t243.length co12)).setCell ⟨gb249, 1, none⟩ (.slice Ao15 t246.length co15)) w.heap.size (fun _ => True) (.slice Ao15 t246.length co15) t246) := ⟨by (with_reducible repeat (first | apply Kd.S_alloc | apply Kd.S_drewN | apply Kd.S_drew)); exact Kd.S_mono (Kd.S_far (p := ⟨gb249, 1, none⟩) (Kd.S_far (p := ⟨gb249, 0, none⟩) (Kd.S_types HO248.out BK249.out (by decide)) (fun _ hk => hk.2) (.slice Ao12 t243.length co12)) (fun _ hk => hk.2) (.slice Ao15 t246.length co15)) (fun _ hk => trivial)⟩
  have n2_ : Aside0 (((w11.setCell ⟨gb249, 0, none⟩ (.slice Ao12 t243.length co12)).setCell ⟨gb249, 1, none⟩ (.slice Ao15 t246.length co15)).heap[gb241]? = some (.cells #[.int .u8 a0_0, .slice A0_1 l0_1.length c0_1, .slice A0_2 l0_2.length c0_2, .slice A0_3 l0_3.length c0_3, .slice A0_4 l0_4.length c0_4, .slice A0_5 l0_5.length c0_5] 25 (0, 0))) := ⟨bkq BK241⟩
  have n3_ : Aside0 (((w11.setCell ⟨gb249, 0, none⟩ (.slice Ao12 t243.length co12)).setCell ⟨gb249, 1, none⟩ (.slice Ao15 t246.length co15)).heap[gb249]? = some (.cells #[.slice Ao12 t243.length co12, .slice Ao15 t246.length co15] 30 (0, 0))) := ⟨bkp BK249⟩
  have n4_ : Aside0 (Below w.heap.size w ((w11.setCell ⟨gb249, 0, none⟩ (.slice Ao12 t243.length co12)).setCell ⟨gb249, 1, none⟩ (.slice Ao15 t246.length co15))) := ⟨by repeat (first | (with_reducible first | exact HB.out | apply below_alloc | apply pw_below_drewN | apply below_drew1 | refine below_set ?_ GE241.out | refine below_set ?_ GE249.out) | exact HB.out)⟩
  (try clear HO245)
  (try clear HO248)
  (try clear BK241)
  (try clear BK249)
  (try clear HB)
  generalize ((w11.setCell ⟨gb249, 0, none⟩ (.slice Ao12 t243.length co12)).setCell ⟨gb249, 1, none⟩ (.slice Ao15 t246.length co15)) = w16 at n0_ n1_ n2_ n3_ n4_ ⊢
  have HO245 := n0_
  have HO248 := n1_
  have BK241 := n2_
  have BK249 := n3_
  have HB := n4_
  clear n0_ n1_ n2_ n3_ n4_
  replace HO245 := Aside0.mk (Kd.S_drew HO245.out)
  replace HO248 := Aside0.mk (Kd.S_drew HO248.out)
  replace BK241 := Aside0.mk (blk_drew BK241.out)
  replace BK249 := Aside0.mk (blk_drew BK249.out)
  replace HB := Aside0.mk (below_drew1 HB.out)
  refine start_ (n := 6) (S := fun w' => CE2 w' gb249 (.slice Ao12 t243.length co12) (.slice Ao15 t246.length co15)) (ds := []) #[false, false, false, false, false, false] (by kernel_rfl) rfl rfl (he2 BK249) (fun hHeld => ?_)
  generalize w16.drew = w17 at HO245 HO248 BK241 BK249 HB hHeld ⊢
  refine take_ (i := 0) (N := some 8) (v := ?_) (a' := ?_) #[true, false, false, false, false, false] rfl rfl (by kernel_rfl) (fun _ _ _ h => h) (Or.inl ⟨by rfl, ?_⟩) hHeld ?_ ?_
  rotate_left
  ·rintro w' ⟨s0, s1⟩
   go_simp
   with_reducible rfl
  rotate_left
  ·simp only [Act.put, List.setIfInBounds_toArray, List.set_cons_zero, List.set_cons_succ, i64_w, i32_w]
   rfl
  refine take_ (i := 2) (N := some 10) (v := ?_) (a' := ?_) #[true, false, true, false, false, false] rfl rfl (by kernel_rfl) (fun _ _ _ h => h) (Or.inl ⟨by rfl, ?_⟩) hHeld ?_ ?_
  rotate_left
  ·rintro w' ⟨s0, s1⟩
   go_simp
   with_reducible rfl
  rotate_left
  ·simp only [Act.put, List.setIfInBounds_toArray, List.set_cons_zero, List.set_cons_succ, i64_w, i32_w]
   rfl
  refine one_ (i := 1) (N := some 9) #[true, true, true, false, false, false] rfl rfl (by kernel_rfl) (by decide) (fun K hK => ?_)
  refine go1 Tryd.func10 #[.agg #[.slice Ao12 t243.length co12, .slice Ao15 t246.length co15]] ?_
  with_reducible refine (text_Config.calls k _ _ t243 _ _ t246 t250 _ ?side1 ?side2 ?side3 ?side4 A5.out (Go.Proofs.YtjcopneljfcfoaaDoor.Inv.ivb hInv)).mono ?_
  (case side1 => repeat (first | exact (Kd.S_reads' HO245.out).2.2 | (with_reducible refine Kd.C_alloc ?_ _) | (with_reducible refine Kd.C_drewN ?_ _) | (with_reducible refine Kd.C_drew ?_)))
  (case side2 => exact (Kd.S_reads' HO245.out).2.1)
  (case side3 => repeat (first | exact (Kd.S_reads' HO248.out).2.2 | (with_reducible refine Kd.C_alloc ?_ _) | (with_reducible refine Kd.C_drewN ?_ _) | (with_reducible refine Kd.C_drew ?_)))
  (case side4 => exact (Kd.S_reads' HO248.out).2.1)
  rintro e w18 ⟨rfl, hb⟩
  refine ⟨_, rfl, ?_⟩
  replace HO245 := Aside0.mk (Kd.S_below (kS HO245) hb)
  replace HO248 := Aside0.mk (Kd.S_below (kS HO248) hb)
  replace BK241 := bkb BK241 hb
  replace BK249 := bkb BK249 hb
  replace HB := bst hb
  (try clear hb)
  (try clear hb2)
  (try clear hk)
  (try clear hi)
  refine hK.out _ _ (he2 BK249) (fun hHeld => ?_)
  clear hK K
  refine nm (some 9) ?_
  refine one_ (i := 3) (N := some 11) #[true, true, true, true, false, false] rfl rfl (by kernel_rfl) (by decide) (fun K hK => ?_)
  refine go1 Tryd.func11 #[.agg #[.slice Ao12 t243.length co12, .slice Ao15 t246.length co15]] ?_
  with_reducible refine (maquettelaw07_Text.calls k _ _ t243 _ _ t246 t251 _ ?side1 ?side2 ?side3 ?side4 A6.out (Go.Proofs.YtjcopneljfcfoaaDoor.Inv.ivb hInv)).mono ?_
  (case side1 => repeat (first | exact (Kd.S_reads' HO245.out).2.2 | (with_reducible refine Kd.C_alloc ?_ _) | (with_reducible refine Kd.C_drewN ?_ _) | (with_reducible refine Kd.C_drew ?_)))
  (case side2 => exact (Kd.S_reads' HO245.out).2.1)
  (case side3 => repeat (first | exact (Kd.S_reads' HO248.out).2.2 | (with_reducible refine Kd.C_alloc ?_ _) | (with_reducible refine Kd.C_drewN ?_ _) | (with_reducible refine Kd.C_drew ?_)))
  (case side4 => exact (Kd.S_reads' HO248.out).2.1)
  rintro e w19 ⟨rfl, hb⟩
  refine ⟨_, rfl, ?_⟩
  replace HO245 := Aside0.mk (Kd.S_below (kS HO245) hb)
  replace HO248 := Aside0.mk (Kd.S_below (kS HO248) hb)
  replace BK241 := bkb BK241 hb
  replace BK249 := bkb BK249 hb
  replace HB := bst hb
  (try clear hb)
  (try clear hb2)
  (try clear hk)
  (try clear hi)
  refine hK.out _ _ (he2 BK249) (fun hHeld => ?_)
  clear hK K
  refine nm (some 11) ?_
  refine pure_ (i := 4) (N := some 12) (v := ?_) (a' := ?_) #[true, true, true, true, true, false] rfl rfl (by kernel_rfl) (fun _ _ _ h => h) (Or.inl ⟨by rfl, ?_⟩) ?_ ?_
  rotate_left
  ·intro w'
   go_simp
   with_reducible rfl
  rotate_left
  ·simp only [Act.put, List.setIfInBounds_toArray, List.set_cons_zero, List.set_cons_succ, i64_w, i32_w]
   rfl
  refine pure_ (i := 5) (N := some 2) (v := ?_) (a' := ?_) #[true, true, true, true, true, true] rfl rfl (by kernel_rfl) (fun _ _ _ h => h) (Or.inl ⟨by rfl, ?_⟩) ?_ ?_
  rotate_left
  ·intro w'
   go_simp
   with_reducible rfl
  rotate_left
  ·simp only [Act.put, List.setIfInBounds_toArray, List.set_cons_zero, List.set_cons_succ, i64_w, i32_w]
   rfl
  refine done_ (by kernel_rfl) ?_
  try go_wp2
  go_ret
  exact ⟨by first | rfl | (simp [errW_none, errW_some] <;> rfl) | (simp [*, errW_none, errW_some] <;> rfl), by repeat (first | (with_reducible first | exact HB.out | apply below_alloc | apply pw_below_drewN | apply below_drew1 | refine below_set ?_ GE241.out | refine below_set ?_ GE249.out) | exact HB.out)⟩
 ·replace c3 := Bool.eq_false_iff.mpr c3
  subst c3
  have H1 : (some false) = some r := by rw [if_neg (show ¬ (false = true) by decide)] at H; exact H
  clear H
  have H := H1
  clear H1
  obtain rfl := Option.some.inj H
  go_enter Tryd.func3, Tryd.ntmps3
  go_wp2_with (first | ((with_reducible refine gate_dst (N := 1) rfl ?_); refine bx 1 (cs := #[.int .u8 a0_0, .slice A0_1 l0_1.length c0_1, .slice A0_2 l0_2.length c0_2, .slice A0_3 l0_3.length c0_3, .slice A0_4 l0_4.length c0_4, .slice A0_5 l0_5.length c0_5]) (t := 25) (h := ?_); intro gb241 hg w20 hbox hb; have BK241 := Aside0.mk hbox; have GW241 : Aside0 (w.heap.size ≤ gb241) := bge hg; have GE241 : Aside0 (w.heap.size ≤ gb241) := bge hg; replace HB := bst hb; clear hb hbox hg) | ((with_reducible refine gate_dst (N := 4) rfl ?_); refine gl (some 4) Tryd.func8 #[] ?_; (with_reducible refine (maquettelaw07_awake.calls k  false _ A2.out (Go.Proofs.YtjcopneljfcfoaaDoor.Inv.ivb hInv)).mono ?_); rintro e w21 ⟨rfl, hb⟩; refine ⟨_, rfl, ?_⟩; replace BK241 := bkb BK241 hb; replace HB := bst hb; (try clear hb); (try clear hb2); (try clear hk); (try clear hi)))
  go_ret
  exact ⟨by first | rfl | (simp [errW_none, errW_some] <;> rfl) | (simp [*, errW_none, errW_some] <;> rfl), by repeat (first | (with_reducible first | exact HB.out | apply below_alloc | apply pw_below_drewN | apply below_drew1 | refine below_set ?_ GE241.out) | exact HB.out)⟩

end Go.Proofs.YtjcopneljfcfoaaDoor.PRaw
