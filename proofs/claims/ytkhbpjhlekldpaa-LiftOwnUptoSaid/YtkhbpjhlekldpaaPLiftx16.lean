-- Written by wip/xprint.py of this work: the printer of the kit, with contracts of this work beside it, shortened.
import Derived.Test.YtkhbpjhlekldpaaShort
import Derived.Test.YtkhbpjhlekldpaaPLiftx0
import Derived.Test.YtkhbpjhlekldpaaPLiftx12
import Derived.Test.YtkhbpjhlekldpaaJ4
namespace Go.Proofs.Ytkhbpjhlekldpaa.PLift
open Go.RowKit Go.Proofs.Ytkhbpjhlekldpaa.Short Go.Proofs.YtkhbpjhlekldpaaW.PrintWords Go.Proofs.YtkhbpjhlekldpaaW.PrintLast Go.Proofs.YtkhbpjhlekldpaaW.PrintMore
attribute [local go_sem] max2_int min2_int max_two min_two max_three min_three max_four min_four   -- for this text's walks alone
set_option linter.unusedVariables false
set_option linter.unusedSimpArgs false

/-! ### lift_Answers: function 23 -/
def lift_Answers.l0 : Nat → List (List Int) → List Bool → List Bool → List (S64) → Int → Int → Option ((List (S64)))
 | 0, _, _, _, _, _, _ => none
 | k + 1, x8, x9, x10, x11, x28, x29 => if x29 < x28 then (if 0 ≤ x29 then (if x29 < (x9.length : Int) then (if x29 < (x10.length : Int) then (if x29 < (x8.length : Int) then (if x11.length < 4398046511104 then (lift_Answers.l0 k x8 x9 x10 (x11 ++ [(⟨rdOf false x9 x29, rdOf false x10 x29, rd_L2 x8 x29⟩ : S64)]) x28 (wrap64 (x29 + 1))) else (none)) else (none)) else (none)) else (none)) else (none)) else (some x11)
def lift_Answers.f (k : Nat) (l0_0 : List Bool) (l0_1 : List Int) (l0_2 : List (List (S51))) (l1 : List (S41)) (a2 : Int) : Option ((List (S64))) := (forward_Of.f k l0_0 l0_1 l0_2 l1).bind fun t165 => ((forward_Hops.f t165 l0_0 a2).bind fun t168 => ((forward_Reach.f t165 l0_0).bind fun t171 => ((forward_Loops.f t165).bind fun t174 => (lift_Answers.l0 k t168 t171 t174 ([] : List (S64)) (t165.length : Int) 0))))
theorem lift_Answers.mono_l : ∀ k, (∀ y0 y1 y2 y3 y4 y5, LeO (lift_Answers.l0 k y0 y1 y2 y3 y4 y5) (lift_Answers.l0 (k + 1) y0 y1 y2 y3 y4 y5))
 | 0 => fun _ _ _ _ _ _ r h => by simp [lift_Answers.l0] at h
 | k + 1 => by
  have ih0 := lift_Answers.mono_l k
  ·intro y0 y1 y2 y3 y4 y5
   unfold lift_Answers.l0
   repeat' first
   | (with_reducible exact ih0 _ _ _ _ _ _)
   | (with_reducible exact forward_Of.mono _ _ _ _ _)
   | (with_reducible exact LeO.refl _)
   | (with_reducible exact LeO.none _)
   | (with_reducible refine LeO.ite ?_ ?_)
   | (with_reducible refine LeO.bind ?_ (fun _ => ?_))
   | exact ih0 _ _ _ _ _ _
   | exact forward_Of.mono _ _ _ _ _
   | exact LeO.none _
   | refine LeO.ite ?_ ?_
   | refine LeO.bind ?_ (fun _ => ?_)
theorem lift_Answers.mono : ∀ a0 a1 a2 a3 a4 k, LeO (lift_Answers.f k a0 a1 a2 a3 a4) (lift_Answers.f (k + 1) a0 a1 a2 a3 a4) := by
 intro a0 a1 a2 a3 a4 k
 have ih0 := lift_Answers.mono_l k
 unfold lift_Answers.f
 repeat' first
   | (with_reducible exact ih0 _ _ _ _ _ _)
   | (with_reducible exact forward_Of.mono _ _ _ _ _)
   | (with_reducible exact LeO.refl _)
   | (with_reducible exact LeO.none _)
   | (with_reducible refine LeO.ite ?_ ?_)
   | (with_reducible refine LeO.bind ?_ (fun _ => ?_))
   | exact ih0 _ _ _ _ _ _
   | exact forward_Of.mono _ _ _ _ _
   | exact LeO.none _
   | refine LeO.ite ?_ ?_
   | refine LeO.bind ?_ (fun _ => ?_)
def lift_Answers.T2 : Bool × List (List Nat × List Nat) := (true, [([], []), ([], []), ([1], [1]), ([], []), ([0, 2, 3], [0, 2, 3]), ([], []), ([], []), ([6], [6]), ([5, 7, 4], [5, 7]), ([], []), ([9, 8], [9]), ([4, 10, 0, 1, 2, 3, 4], [4]), ([8, 11, 0, 1, 2, 3, 4, 5, 6, 7, 8, 11], [8]), ([10, 12, 0, 1, 2, 3, 4, 5, 6, 7, 8, 9, 10, 11, 12], [10])])
def lift_Answers.B2 : List Nat := [0, 0, 2, 0, 15, 0, 0, 64, 255, 0, 1023, 2047, 4095, 8191]
theorem lift_Answers.tab2 : rtab .any (opsOf Try.f23 2) = lift_Answers.T2 := by kernel_rfl
theorem lift_Answers.bits2 : waitsOk lift_Answers.T2.2 lift_Answers.B2 = true := by kernel_rfl
def lift_Answers.T7 : Bool × List (List Nat × List Nat) := (true, [([], []), ([], []), ([], []), ([1, 2], [1, 2]), ([3], [3]), ([], []), ([], []), ([5, 6], [5, 6]), ([7], [7]), ([], []), ([], []), ([9, 10], [9, 10]), ([11], [11]), ([4, 8, 12], [4, 8, 12]), ([13], [13]), ([0, 14], [0, 14]), ([15, 15, 0, 1, 2, 3, 4, 5, 6, 7, 8, 9, 10, 11, 12, 13, 14, 15], [0, 15])])
def lift_Answers.B7 : List Nat := [0, 0, 0, 6, 14, 0, 0, 96, 224, 0, 0, 1536, 3584, 8190, 16382, 32767, 65535]
theorem lift_Answers.tab7 : rtab .any (opsOf Try.f23 7) = lift_Answers.T7 := by kernel_rfl
theorem lift_Answers.bits7 : waitsOk lift_Answers.T7.2 lift_Answers.B7 = true := by kernel_rfl
set_option maxHeartbeats 8000000 in
set_option maxRecDepth 100000 in
theorem lift_Answers.calls (k : Nat) (A0_0 : Option Addr) (c0_0 : Nat) (l0_0 : List Bool) (A0_1 : Option Addr) (c0_1 : Nat) (l0_1 : List Int) (A0_2 : Option Addr) (c0_2 : Nat) (l0_2 : List (List (S51))) (A1 : Option Addr) (c1 : Nat) (l1 : List (S41)) (a2 : Int) (r : List (S64)) (w : World) (hr0_0 : Kd.C Kd.bool w A0_0 l0_0.length l0_0) (hc0_0 : l0_0.length ≤ c0_0) (hr0_1 : Kd.C (Kd.int .i64) w A0_1 l0_1.length l0_1) (hc0_1 : l0_1.length ≤ c0_1) (hr0_2 : Kd.C (Kd.slice 51 k51) w A0_2 l0_2.length l0_2) (hc0_2 : l0_2.length ≤ c0_2) (hr1 : Kd.C k41 w A1 l1.length l1) (hc1 : l1.length ≤ c1) (h : lift_Answers.f k l0_0 l0_1 l0_2 l1 a2 = some r) :
  Calls Try.prog 23 #[.agg #[.slice A0_0 l0_0.length c0_0, .slice A0_1 l0_1.length c0_1, .slice A0_2 l0_2.length c0_2], .slice A1 l1.length c1, .int .i64 a2] w fun e w' => ∃ v0_ : Value, e = .returned (v0_) ∧ Kd.N k64 64 w' w.heap.size (fun k_ => (w.heap.size ≤ k_)) v0_ r ∧ Below w.heap.size w w' := by
 have hu32 := Try.underlying32
 have hu64 := Try.underlying64
 have HR0_0 := Aside0.mk hr0_0
 have HC0_0 := Aside0.mk hc0_0
 clear hr0_0 hc0_0
 have HR0_1 := Aside0.mk hr0_1
 have HC0_1 := Aside0.mk hc0_1
 clear hr0_1 hc0_1
 have HR0_2 := Aside0.mk hr0_2
 have HC0_2 := Aside0.mk hc0_2
 clear hr0_2 hc0_2
 have HR1 := Aside0.mk hr1
 have HC1 := Aside0.mk hc1
 clear hr1 hc1
 have HB := Aside0.mk (Below.refl w.heap.size w)
 have H : ((forward_Of.f k l0_0 l0_1 l0_2 l1).bind fun t165 => ((forward_Hops.f t165 l0_0 a2).bind fun t168 => ((forward_Reach.f t165 l0_0).bind fun t171 => ((forward_Loops.f t165).bind fun t174 => (lift_Answers.l0 k t168 t171 t174 ([] : List (S64)) (t165.length : Int) 0))))) = some r := h
 clear h
 replace H := Option.bind_eq_some_iff.mp H
 obtain ⟨t165, A40, H⟩ := H
 replace H : ((forward_Hops.f t165 l0_0 a2).bind fun t168 => ((forward_Reach.f t165 l0_0).bind fun t171 => ((forward_Loops.f t165).bind fun t174 => (lift_Answers.l0 k t168 t171 t174 ([] : List (S64)) (t165.length : Int) 0)))) = some r := H
 have A4 := Aside0.mk A40
 clear A40
 replace H := Option.bind_eq_some_iff.mp H
 obtain ⟨t168, A50, H⟩ := H
 replace H : ((forward_Reach.f t165 l0_0).bind fun t171 => ((forward_Loops.f t165).bind fun t174 => (lift_Answers.l0 k t168 t171 t174 ([] : List (S64)) (t165.length : Int) 0))) = some r := H
 have A5 := Aside0.mk A50
 clear A50
 replace H := Option.bind_eq_some_iff.mp H
 obtain ⟨t171, A60, H⟩ := H
 replace H : ((forward_Loops.f t165).bind fun t174 => (lift_Answers.l0 k t168 t171 t174 ([] : List (S64)) (t165.length : Int) 0)) = some r := H
 have A6 := Aside0.mk A60
 clear A60
 replace H := Option.bind_eq_some_iff.mp H
 obtain ⟨t174, A70, H⟩ := H
 replace H : (lift_Answers.l0 k t168 t171 t174 ([] : List (S64)) (t165.length : Int) 0) = some r := H
 have A7 := Aside0.mk A70
 clear A70
 have H' := Aside0.mk H
 clear H
 go_enter Try.func23, Try.ntmps23
 try go_wp2_with (first | ((with_reducible refine gate_dst (N := 3) rfl ?_); refine bx 3 (cs := #[.slice A0_0 l0_0.length c0_0, .slice A0_1 l0_1.length c0_1, .slice A0_2 l0_2.length c0_2]) (t := 32) (h := ?_); intro gb164 hg w8 hbox hb; have BK164 := Aside0.mk hbox; have GW164 : Aside0 (w.heap.size ≤ gb164) := bge hg; have GE164 : Aside0 (w.heap.size ≤ gb164) := bge hg; replace HB := bst hb; clear hb hbox hg; obtain ⟨hcz9_0, hcz9_1, hcz9_2, hfz9_0, hfz9_1, hfz9_2⟩ := bc3 BK164) | ((with_reducible refine gate_dst (N := 15) rfl ?_); refine gl (some 15) Try.func14 #[.agg #[.slice A0_0 l0_0.length c0_0, .slice A0_1 l0_1.length c0_1, .slice A0_2 l0_2.length c0_2], .slice A1 l1.length c1] ?_; (with_reducible refine (forward_Of.calls k _ _ l0_0 _ _ l0_1 _ _ l0_2 _ _ l1 t165 _ ?side1 ?side2 ?side3 ?side4 ?side5 ?side6 ?side7 ?side8 A4.out).mono ?_); (case side1 => repeat (first | exact (Kd.C_below HR0_0.out HB.out) | (with_reducible refine Kd.C_alloc ?_ _) | (with_reducible refine Kd.C_drewN ?_ _) | (with_reducible refine Kd.C_drew ?_))); (case side2 => exact HC0_0.out); (case side3 => repeat (first | exact (Kd.C_below HR0_1.out HB.out) | (with_reducible refine Kd.C_alloc ?_ _) | (with_reducible refine Kd.C_drewN ?_ _) | (with_reducible refine Kd.C_drew ?_))); (case side4 => exact HC0_1.out); (case side5 => repeat (first | exact (Kd.C_below HR0_2.out HB.out) | (with_reducible refine Kd.C_alloc ?_ _) | (with_reducible refine Kd.C_drewN ?_ _) | (with_reducible refine Kd.C_drew ?_))); (case side6 => exact HC0_2.out); (case side7 => repeat (first | exact (Kd.C_below HR1.out HB.out) | (with_reducible refine Kd.C_alloc ?_ _) | (with_reducible refine Kd.C_drewN ?_ _) | (with_reducible refine Kd.C_drew ?_))); (case side8 => exact HC1.out); rintro e w10 ⟨v166, rfl, ho0, hb⟩; refine ⟨_, rfl, ?_⟩; have HO167 := Aside0.mk (Kd.V_lower (Kd.V_mono (ok' := fun k_ => (w.heap.size ≤ k_) ∧ k_ ≠ gb164) ho0 (fun k_ hk_ => ⟨(Nat.le_trans (below_size bel) hk_), (Kd.freshB (bkq BK164) k_ hk_)⟩)) (below_size bel)); replace BK164 := bkb BK164 hb; replace HB := bst hb; (try clear hb); (try clear hb2); (try clear hk); (try clear hi); (try clear ho0)))
 replace HO167 := Aside0.mk (Kd.V_drew HO167.out)
 replace BK164 := Aside0.mk (blk_drew BK164.out)
 replace HB := Aside0.mk (below_drew1 HB.out)
 obtain ⟨Ao12, co12, eo12⟩ := Kd.V_slice HO167.out
 (first | subst eo12 | (injection eo12 with f1_ f2_ f3_; have f4_ := f1_.symm; have f5_ := f3_.symm; clear f1_ f2_ f3_; subst f4_; subst f5_))
 refine start_ (n := 14) (S := fun w' => w'.cell? ⟨gb164, 0, none⟩ = some (.slice A0_0 l0_0.length c0_0) ∧ w'.cell? ⟨gb164, 1, none⟩ = some (.slice A0_1 l0_1.length c0_1) ∧ w'.cell? ⟨gb164, 2, none⟩ = some (.slice A0_2 l0_2.length c0_2)) (ds := []) #[false, false, false, false, false, false, false, false, false, false, false, false, false, false] (by kernel_rfl) rfl rfl ⟨(blk_cell BK164.out 0).trans rfl, (blk_cell BK164.out 1).trans rfl, (blk_cell BK164.out 2).trans rfl⟩ (fun hHeld => ?_); refine with_tabW lift_Answers.tab2 lift_Answers.bits2 (fun HT_ HW_ => ?_)
 generalize w10.drew = w11 at HO167 BK164 HB hHeld ⊢
 refine pu HT_ 0 (some 16) (mk 14 1) ?_
 refine pu HT_ 1 (some 17) (mk 14 3) ?_
 refine pu HT_ 3 (some 19) (mk 14 11) ?_
 refine pu HT_ 5 (some 21) (mk 14 43) ?_
 refine pu HT_ 6 (some 22) (mk 14 107) ?_
 refine pu HT_ 9 (some 25) (mk 14 619) ?_
 refine tk HT_ HW_ 2 (some 18) (mk 14 623) hHeld ?_
 refine tk HT_ HW_ 7 (some 23) (mk 14 751) hHeld ?_
 refine on HT_ 4 (some 20) (mk 14 767) fun K hK => ?_
 refine go1 Try.func24 #[.slice Ao12 t165.length co12, .slice A0_0 l0_0.length c0_0, .int .i64 a2] ?_
 with_reducible refine (forward_Hops.calls _ _ t165 _ _ l0_0 a2 t168 _ ?side1 ?side2 ?side3 ?side4 A5.out).mono ?_
 (case side1 => repeat (first | exact (Kd.V_reads' HO167.out).2.2 | (with_reducible refine Kd.C_alloc ?_ _) | (with_reducible refine Kd.C_drewN ?_ _) | (with_reducible refine Kd.C_drew ?_)))
 (case side2 => exact (Kd.V_reads' HO167.out).2.1)
 (case side3 => repeat (first | exact (Kd.C_below HR0_0.out HB.out) | (with_reducible refine Kd.C_alloc ?_ _) | (with_reducible refine Kd.C_drewN ?_ _) | (with_reducible refine Kd.C_drew ?_)))
 (case side4 => exact HC0_0.out)
 rintro e w13 ⟨v169, rfl, ho0, hb⟩
 refine ⟨_, rfl, ?_⟩
 have HO170 := Aside0.mk (Kd.V_lower (Kd.V_mono (ok' := fun k_ => (w.heap.size ≤ k_) ∧ k_ ≠ gb164) ho0 (fun k_ hk_ => ⟨(Nat.le_trans (below_size bel) hk_), (Kd.freshB (bkq BK164) k_ hk_)⟩)) (below_size bel))
 replace HO167 := Aside0.mk (Kd.V_below (kV HO167) hb)
 replace BK164 := bkb BK164 hb
 replace HB := bst hb
 (try clear hb)
 (try clear hb2)
 (try clear hk)
 (try clear hi)
 (try clear ho0)
 refine hK.out _ _ ⟨(blk_cell BK164.out 0).trans rfl, (blk_cell BK164.out 1).trans rfl, (blk_cell BK164.out 2).trans rfl⟩ (fun hHeld => ?_)
 clear hK K
 refine nm (some 20) ?_
 refine on HT_ 8 (some 24) (mk 14 1023) fun K hK => ?_
 refine go1 Try.func18 #[.slice Ao12 t165.length co12, .slice A0_0 l0_0.length c0_0] ?_
 with_reducible refine (forward_Reach.calls _ _ t165 _ _ l0_0 t171 _ ?side1 ?side2 ?side3 ?side4 A6.out).mono ?_
 (case side1 => repeat (first | exact (Kd.V_reads' HO167.out).2.2 | (with_reducible refine Kd.C_alloc ?_ _) | (with_reducible refine Kd.C_drewN ?_ _) | (with_reducible refine Kd.C_drew ?_)))
 (case side2 => exact (Kd.V_reads' HO167.out).2.1)
 (case side3 => repeat (first | exact (Kd.C_below HR0_0.out HB.out) | (with_reducible refine Kd.C_alloc ?_ _) | (with_reducible refine Kd.C_drewN ?_ _) | (with_reducible refine Kd.C_drew ?_)))
 (case side4 => exact HC0_0.out)
 rintro e w14 ⟨v172, rfl, ho0, hb⟩
 refine ⟨_, rfl, ?_⟩
 have HO173 := Aside0.mk (Kd.R_lower (Kd.R_newM (M := fun k_ => (w.heap.size ≤ k_)) ho0 (below_size bel) (fun k_ h_ => h_)) (below_size bel))
 replace HO167 := Aside0.mk (Kd.V_elder' (kV HO167) (Kd.R_base ho0) hb)
 replace HO170 := Aside0.mk (Kd.V_elder' (kV HO170) (Kd.R_base ho0) hb)
 replace BK164 := bkb BK164 hb
 replace HB := bst hb
 (try clear hb)
 (try clear hb2)
 (try clear hk)
 (try clear hi)
 (try clear ho0)
 refine hK.out _ _ ⟨(blk_cell BK164.out 0).trans rfl, (blk_cell BK164.out 1).trans rfl, (blk_cell BK164.out 2).trans rfl⟩ (fun hHeld => ?_)
 clear hK K
 refine nm (some 24) ?_
 refine on HT_ 10 (some 26) (mk 14 2047) fun K hK => ?_
 refine go1 Try.func19 #[.slice Ao12 t165.length co12] ?_
 with_reducible refine (forward_Loops.calls _ _ t165 t174 _ ?side1 ?side2 A7.out).mono ?_
 (case side1 => repeat (first | exact (Kd.V_reads' HO167.out).2.2 | (with_reducible refine Kd.C_alloc ?_ _) | (with_reducible refine Kd.C_drewN ?_ _) | (with_reducible refine Kd.C_drew ?_)))
 (case side2 => exact (Kd.V_reads' HO167.out).2.1)
 rintro e w15 ⟨v175, rfl, ho0, hb⟩
 refine ⟨_, rfl, ?_⟩
 have HO176 := Aside0.mk (Kd.R_lower (Kd.R_new' (Kd.R_newM (M := fun k_ => (w.heap.size ≤ k_)) ho0 (below_size bel) (fun k_ h_ => h_)) (Kd.R_lt (kR HO173))) (below_size bel))
 replace HO167 := Aside0.mk (Kd.V_elder' (kV HO167) (Kd.R_base ho0) hb)
 replace HO170 := Aside0.mk (Kd.V_elder' (kV HO170) (Kd.R_base ho0) hb)
 replace HO173 := Aside0.mk (Kd.R_elder' (kR HO173) (Kd.R_base ho0) hb)
 replace BK164 := bkb BK164 hb
 replace HB := bst hb
 (try clear hb)
 (try clear hb2)
 (try clear hk)
 (try clear hi)
 (try clear ho0)
 refine hK.out _ _ ⟨(blk_cell BK164.out 0).trans rfl, (blk_cell BK164.out 1).trans rfl, (blk_cell BK164.out 2).trans rfl⟩ (fun hHeld => ?_)
 clear hK K
 refine nm (some 26) ?_
 refine pu HT_ 11 (some 8) (mk 14 4095) ?_
 refine pu HT_ 12 (some 9) (mk 14 8191) ?_
 refine pu HT_ 13 (some 10) (mk 14 16383) ?_
 refine done_ (done_of HT_.out (by kernel_rfl)) ?_
 try go_wp2
 go_loopg [11, 29] k (fun kq v11 v29 w' => ∃ (x11_1 : List (S64)) (x29_1 : Int), v29 = .int .i64 x29_1 ∧ Aside0 (lift_Answers.l0 kq t168 t171 t174 x11_1 (t165.length : Int) x29_1 = some r) ∧ Aside0 (kq ≤ k) ∧ Aside0 (Kd.V (Kd.slice 3 (Kd.int .i64)) 29 w' w.heap.size (fun k_ => (w.heap.size ≤ k_) ∧ some k_ ≠ (v172 : Value).ownBlock ∧ some k_ ≠ (v175 : Value).ownBlock ∧ some k_ ≠ (v11 : Value).ownBlock ∧ k_ ≠ gb164) v169 t168) ∧ Aside0 (Kd.R Kd.bool 4 w' w.heap.size (fun k_ => (w.heap.size ≤ k_) ∧ some k_ ≠ (v175 : Value).ownBlock) v172 t171) ∧ Aside0 (Kd.R Kd.bool 4 w' w.heap.size (fun k_ => (w.heap.size ≤ k_) ∧ some k_ ≠ (v172 : Value).ownBlock) v175 t174) ∧ Aside0 (Kd.N k64 64 w' w.heap.size (fun k_ => (w.heap.size ≤ k_) ∧ some k_ ≠ (v172 : Value).ownBlock ∧ some k_ ≠ (v175 : Value).ownBlock ∧ k_ ≠ gb164) v11 x11_1) ∧ Aside0 (w'.heap[gb164]? = some (.cells #[(.slice A0_0 l0_0.length c0_0), (.slice A0_1 l0_1.length c0_1), (.slice A0_2 l0_2.length c0_2)] 32 (0, 0))) ∧ Aside0 (Below w.heap.size w w'))
 case atStart => exact ⟨(([] : List (S64))), (0), (by first | rfl | (simp; done) | (simp [*]; done)), H', ⟨Nat.le_refl _⟩, ⟨by (with_reducible repeat (first | apply Kd.V_alloc | apply Kd.V_drewN | apply Kd.V_drew)); exact Kd.V_mono HO170.out (fun _ hk => ⟨hk.1.1.1, ⟨hk.1.2, ⟨hk.2, ⟨(by simp [Value.ownBlock]), hk.1.1.2⟩⟩⟩⟩)⟩, ⟨by (with_reducible repeat (first | apply Kd.R_alloc | apply Kd.R_drewN | apply Kd.R_drew)); exact Kd.R_mono HO173.out (fun _ hk => ⟨hk.1.1, hk.2⟩)⟩, ⟨by (with_reducible repeat (first | apply Kd.R_alloc | apply Kd.R_drewN | apply Kd.R_drew)); exact Kd.R_mono HO176.out (fun _ hk => ⟨hk.1.1, hk.2⟩)⟩, ⟨by first | exact Kd.S_nil _ _ _ _ _ | exact Kd.N_nil _ _ _ _ _ | exact Kd.V_nil _ _ _ _ _ | exact Kd.Q_nil _ _ _ _ _ | exact Kd.R_nil _ _ _ _ _⟩, ⟨bkq BK164⟩, ⟨by repeat (first | (with_reducible first | exact HB.out | apply below_alloc | apply pw_below_drewN | apply below_drew1 | refine below_set ?_ GE164.out) | exact HB.out)⟩⟩
 case round =>
  clear H'
  try clear c1
  try clear c2
  try clear p2
  try clear c14
  try clear hcz9_0 hcz9_1 hcz9_2 hfz9_0 hfz9_1 hfz9_2
  obtain ⟨x11_1, x29_1, rfl, HA, HK1, HO_8, HO_9, HO_10, HO_11, BK164, HB⟩ := hrel
  cases gk with
  | zero => exact absurd HA.out (by simp [lift_Answers.l0])
  | succ k1 =>
   have H := HA.out
   clear HA
   simp only [lift_Answers.l0] at H
   by_cases c16 : x29_1 < (t165.length : Int)
   ·rw [if_pos c16] at H
    have c16b0 : decide (x29_1 < (t165.length : Int)) = true := decide_eq_true c16
    clear c16
    by_cases c17 : 0 ≤ x29_1
    ·rw [if_pos c17] at H
     have c17b0 : decide (0 ≤ x29_1) = true := decide_eq_true c17
     clear c17
     by_cases c18 : x29_1 < (t171.length : Int)
     ·rw [if_pos c18] at H
      have c18b0 : decide (x29_1 < (t171.length : Int)) = true := decide_eq_true c18
      clear c18
      by_cases c19 : x29_1 < (t174.length : Int)
      ·rw [if_pos c19] at H
       have c19b0 : decide (x29_1 < (t174.length : Int)) = true := decide_eq_true c19
       clear c19
       by_cases c20 : x29_1 < (t168.length : Int)
       ·rw [if_pos c20] at H
        have c20b0 : decide (x29_1 < (t168.length : Int)) = true := decide_eq_true c20
        clear c20
        by_cases c21 : x11_1.length < 4398046511104
        ·rw [if_pos c21] at H
         have LMc21 := Aside0.mk c21
         clear c21
         obtain ⟨y180, hy180⟩ : ∃ y_ : List (S64), y_ = (x11_1 ++ [(⟨rdOf false t171 x29_1, rdOf false t174 x29_1, rd_L2 t168 x29_1⟩ : S64)]) := ⟨_, rfl⟩
         replace H : (lift_Answers.l0 k1 t168 t171 t174 y180 (t165.length : Int) (wrap64 (x29_1 + 1))) = some r := by first | (rw [hy180]; with_reducible exact H) | (have H2_ := (Option.bind_some _ _).symm.trans H; rw [hy180]; with_reducible exact H2_) | (have H2_ := (Option.bind_some _ _).symm.trans H; with_reducible exact H2_) | with_reducible exact H | (rw [hy180]; exact H) | exact H
         have Ny180 := Aside0.mk hy180
         clear hy180
         have H' := Aside0.mk H
         clear H
         try go_wp2
         replace HO_8 := Aside0.mk (Kd.V_drew HO_8.out)
         replace HO_9 := Aside0.mk (Kd.R_drew HO_9.out)
         replace HO_10 := Aside0.mk (Kd.R_drew HO_10.out)
         replace HO_11 := Aside0.mk (Kd.N_drew HO_11.out)
         replace BK164 := Aside0.mk (blk_drew BK164.out)
         replace HB := Aside0.mk (below_drew1 HB.out)
         obtain ⟨Ao23, co23, eo23⟩ := Kd.R_slice HO_9.out
         (first | subst eo23 | (injection eo23 with f1_ f2_ f3_; have f4_ := f1_.symm; have f5_ := f3_.symm; clear f1_ f2_ f3_; subst f4_; subst f5_))
         have p177 : 0 ≤ (x29_1 : Int) := of_decide_eq_true (by first | (with_reducible assumption) | assumption)
         have q177 : x29_1 < (t171.length : Int) := of_decide_eq_true (by first | (with_reducible assumption) | assumption)
         obtain ⟨ad177, e177, hx177_0⟩ := Kd.at_bool (Kd.R_reads' HO_9.out).2.2 x29_1 p177 q177
         cases e177
         replace p177 := eq_true p177
         replace q177 := eq_true q177
         obtain ⟨Ao24, co24, eo24⟩ := Kd.R_slice HO_10.out
         (first | subst eo24 | (injection eo24 with f1_ f2_ f3_; have f4_ := f1_.symm; have f5_ := f3_.symm; clear f1_ f2_ f3_; subst f4_; subst f5_))
         have p178 : 0 ≤ (x29_1 : Int) := of_decide_eq_true (by first | (with_reducible assumption) | assumption)
         have q178 : x29_1 < (t174.length : Int) := of_decide_eq_true (by first | (with_reducible assumption) | assumption)
         obtain ⟨ad178, e178, hx178_0⟩ := Kd.at_bool (Kd.R_reads' HO_10.out).2.2 x29_1 p178 q178
         cases e178
         replace p178 := eq_true p178
         replace q178 := eq_true q178
         obtain ⟨Ao25, co25, eo25⟩ := Kd.V_slice HO_8.out
         (first | subst eo25 | (injection eo25 with f1_ f2_ f3_; have f4_ := f1_.symm; have f5_ := f3_.symm; clear f1_ f2_ f3_; subst f4_; subst f5_))
         have p179 : 0 ≤ (x29_1 : Int) := of_decide_eq_true (by first | (with_reducible assumption) | assumption)
         have q179 : x29_1 < (t168.length : Int) := of_decide_eq_true (by first | (with_reducible assumption) | assumption)
         obtain ⟨ad179, A179_0, c179_0, e179, hx179_0, hl179_0, hi179_0⟩ := at_L2 (Kd.V_reads' HO_8.out).2.2 x29_1 p179 q179
         cases e179
         obtain ⟨ce179, hce179, hMe179, hcc179⟩ := Kd.V_get HO_8.out [] x29_1 p179 (by first | exact q179 | exact of_decide_eq_true (by first | (with_reducible assumption) | assumption) | (have e_ := (Kd.V_reads' HO_8.out).1; omega))
         obtain ⟨ua179_0, uc179_0, rfl, ul179_0, ge179_0⟩ := Kd.FK_slice_open hMe179
         have hv179_0 := hcc179 0 _ rfl
         rw [Nat.add_zero, show ((Kd.slice 3 (Kd.int .i64))).sz = 1 from rfl, Nat.mul_one] at hv179_0
         replace hv179_0 := Option.some.inj (hv179_0.symm.trans hx179_0)
         injection hv179_0 with hva_ hvn_ hvc_
         rw [hva_] at ge179_0
         rw [hvc_] at ul179_0
         have HL179_0 := Aside0.mk (show Kd.V (Kd.int .i64) 3 _ w.heap.size _ _ (rd_L2 t168 x29_1) from Kd.V_mk ul179_0 ge179_0)
         clear hva_ hvn_ hvc_ ge179_0 ul179_0
         clear hcc179 hce179
         have HR179_0 := Aside0.mk hi179_0
         have HC179_0 := Aside0.mk hl179_0
         clear hi179_0 hl179_0
         replace p179 := eq_true p179
         replace q179 := eq_true q179
         refine start_ (n := 17) (S := fun w' => w'.cell? (ad177.add (x29_1).toNat) = some (.bool (rdOf false t171 x29_1)) ∧ w'.cell? (ad178.add (x29_1).toNat) = some (.bool (rdOf false t174 x29_1)) ∧ w'.cell? (ad179.add (x29_1).toNat) = some (.slice A179_0 (rd_L2 t168 x29_1).length c179_0)) (ds := [14, 15]) #[false, false, false, false, false, false, false, false, false, false, false, false, false, false, false, false, false] (by kernel_rfl) rfl rfl ⟨hx177_0, hx178_0, hx179_0⟩ (fun hHeld => ?_); refine with_tabW lift_Answers.tab7 lift_Answers.bits7 (fun HT_ HW_ => ?_)
         generalize wr.drew = w22 at HO_8 HO_9 HO_10 HO_11 BK164 HB HL179_0 HR179_0 hx177_0 hx178_0 hx179_0 hHeld ⊢
         refine pu HT_ 0 (some 32) (mk 17 1) ?_
         refine pu HT_ 1 (some 33) (mk 17 3) ?_
         refine pu HT_ 2 (some 34) (mk 17 7) ?_
         refine pu HT_ 3 (some 35) (mk 17 15) ?_
         refine pu HT_ 5 (some 37) (mk 17 47) ?_
         refine pu HT_ 6 (some 38) (mk 17 111) ?_
         refine pu HT_ 7 (some 39) (mk 17 239) ?_
         refine pu HT_ 9 (some 41) (mk 17 751) ?_
         refine pu HT_ 10 (some 42) (mk 17 1775) ?_
         refine pu HT_ 11 (some 43) (mk 17 3823) ?_
         refine tk HT_ HW_ 4 (some 36) (mk 17 3839) hHeld ?_
         refine tk HT_ HW_ 8 (some 40) (mk 17 4095) hHeld ?_
         refine tk HT_ HW_ 12 (some 44) (mk 17 8191) hHeld ?_
         refine pu HT_ 13 (some 45) (mk 17 16383) ?_
         refine la HT_ 14 (some 46) (mk 17 32767) fun K hK => ?_
         refine value_ (w1 := ?_) (v := ?_) (by rfl) rfl ?_ ?_
         rotate_left 2
         ·go_simp
          constructor
          ·rfl
          ·rfl
         refine hK.out _ _ ?_
         clear hK K
         refine nm (some 46) ?_
         refine la HT_ 15 (some 47) (mk 17 65535) fun K hK => ?_
         refine Kd.N_append_step k64 (w0 := w) w.heap.size (by rfl) (.tmp 32) (.tmp 46) 59 64 (.agg #[(.bool false), (.bool false), (.slice none 0 0)]) 32 rfl Try.underlying59 info64 rfl (by decide) (by omega) u11 x11_1 (⟨rdOf false t171 x29_1, rdOf false t174 x29_1, rd_L2 t168 x29_1⟩ : S64) [.bool (rdOf false t171 x29_1), .bool (rdOf false t174 x29_1), .slice A179_0 (rd_L2 t168 x29_1).length c179_0] (fun k_ => (w.heap.size ≤ k_) ∧ some k_ ≠ (.slice (some ad177) t171.length co23 : Value).ownBlock ∧ some k_ ≠ (.slice (some ad178) t174.length co24 : Value).ownBlock ∧ k_ ≠ gb164) (fun k_ => ((fun k_ => (w.heap.size ≤ k_) ∧ some k_ ≠ (.slice (some ad177) t171.length co23 : Value).ownBlock ∧ some k_ ≠ (.slice (some ad178) t174.length co24 : Value).ownBlock ∧ k_ ≠ gb164)) k_ ∧ some k_ ≠ (u11 : Value).ownBlock) rfl rfl ?aP (fun _ hk => hk) ?aF ?aO ?aB ?aS ?aL ?_
         (case aP => exact (k64_mkF _ _ (⟨rdOf false t171 x29_1, rdOf false t174 x29_1, rd_L2 t168 x29_1⟩ : S64) (Kd.V_reads' (Kd.V_mono (ok' := (fun k_ => ((fun k_ => (w.heap.size ≤ k_) ∧ some k_ ≠ (.slice (some ad177) t171.length co23 : Value).ownBlock ∧ some k_ ≠ (.slice (some ad178) t174.length co24 : Value).ownBlock ∧ k_ ≠ gb164)) k_ ∧ some k_ ≠ (u11 : Value).ownBlock)) (HL179_0.out) (fun k_ hk => ⟨⟨hk.1, ⟨hk.2.1, ⟨hk.2.2.1, hk.2.2.2.2⟩⟩⟩, hk.2.2.2.1⟩))).2.1 (Kd.V_F (Kd.V_mono (ok' := (fun k_ => ((fun k_ => (w.heap.size ≤ k_) ∧ some k_ ≠ (.slice (some ad177) t171.length co23 : Value).ownBlock ∧ some k_ ≠ (.slice (some ad178) t174.length co24 : Value).ownBlock ∧ k_ ≠ gb164)) k_ ∧ some k_ ≠ (u11 : Value).ownBlock)) (HL179_0.out) (fun k_ hk => ⟨⟨hk.1, ⟨hk.2.1, ⟨hk.2.2.1, hk.2.2.2.2⟩⟩⟩, hk.2.2.2.1⟩)))))
         (case aB => exact bel)
         (case aF => exact (fun k_ hk => ⟨(Nat.le_trans (below_size bel) hk), Kd.fresh' (Kd.R_lt (kR HO_9)) k_ hk, Kd.fresh' (Kd.R_lt (kR HO_10)) k_ hk, Kd.freshB (bkq BK164) k_ hk⟩))
         (case aO => exact (kN HO_11))
         (case aS => exact (below_size bel))
         (case aL => have := LMc21.out; omega)
         intro v181 w26 ho hb hg hat
         rw [← Ny180.out] at ho
         have HO182 := Aside0.mk ho
         replace HO_8 := Aside0.mk (Kd.V_afterv (ok := (fun k_ => (w.heap.size ≤ k_) ∧ some k_ ≠ (.slice (some ad177) t171.length co23 : Value).ownBlock ∧ some k_ ≠ (.slice (some ad178) t174.length co24 : Value).ownBlock ∧ k_ ≠ gb164)) (by (with_reducible repeat (first | apply Kd.V_alloc | apply Kd.V_drewN | apply Kd.V_drew)); exact Kd.V_mono HO_8.out (fun _ hk => ⟨⟨hk.1, ⟨hk.2.1, ⟨hk.2.2.1, hk.2.2.2.2⟩⟩⟩, hk.2.2.2.1⟩)) hg hat)
         replace HO_9 := Aside0.mk (Kd.R_over' (kR HO_9) (Kd.N_typed (kN HO_11)) (by decide) hg)
         replace HO_10 := Aside0.mk (Kd.R_over' (kR HO_10) (Kd.N_typed (kN HO_11)) (by decide) hg)
         replace BK164 := Aside0.mk (blk_grown (bkq BK164) hg (Kd.N_ne HO_11.out BK164.out (by decide)))
         replace HL179_0 := Aside0.mk (Kd.V_afterv (ok := (fun k_ => (w.heap.size ≤ k_) ∧ some k_ ≠ (.slice (some ad177) t171.length co23 : Value).ownBlock ∧ some k_ ≠ (.slice (some ad178) t174.length co24 : Value).ownBlock ∧ k_ ≠ gb164)) (by (with_reducible repeat (first | apply Kd.V_alloc | apply Kd.V_drewN | apply Kd.V_drew)); exact Kd.V_mono HL179_0.out (fun _ hk => ⟨⟨hk.1, ⟨hk.2.1, ⟨hk.2.2.1, hk.2.2.2.2⟩⟩⟩, hk.2.2.2.1⟩)) hg hat)
         replace HB := Aside0.mk (hb)
         clear HO_11
         clear ho hb hg hat
         refine hK.out _ _ ?_
         clear hK K
         refine nm (some 47) ?_
         refine pu HT_ 16 (some 11) (mk 17 131071) ?_
         refine done_ (done_of HT_.out (by kernel_rfl)) ?_
         try go_wp2
         go_roundg k1
         case measure => have := HK1.out; omega
         case rel => exact ⟨(y180), (wrap64 (x29_1 + 1)), (by first | rfl | (simp; done) | (simp [*]; done)), H', ⟨by have := HK1.out; omega⟩, ⟨by (with_reducible repeat (first | apply Kd.V_alloc | apply Kd.V_drewN | apply Kd.V_drew)); exact Kd.V_mono HO_8.out (fun _ hk => ⟨hk.1.1, ⟨hk.1.2.1, ⟨hk.1.2.2.1, ⟨hk.2, hk.1.2.2.2⟩⟩⟩⟩)⟩, ⟨by (with_reducible repeat (first | apply Kd.R_alloc | apply Kd.R_drewN | apply Kd.R_drew)); exact HO_9.out⟩, ⟨by (with_reducible repeat (first | apply Kd.R_alloc | apply Kd.R_drewN | apply Kd.R_drew)); exact HO_10.out⟩, ⟨by (with_reducible repeat (first | apply Kd.N_alloc | apply Kd.N_drewN | apply Kd.N_drew)); exact HO182.out⟩, ⟨bkq BK164⟩, ⟨by repeat (first | (with_reducible first | exact HB.out | apply below_alloc | apply pw_below_drewN | apply below_drew1 | refine below_set ?_ GE164.out) | exact HB.out)⟩⟩
        ·rw [if_neg c21] at H
         exact absurd H (by simp)
       ·rw [if_neg c20] at H
        exact absurd H (by simp)
      ·rw [if_neg c19] at H
       exact absurd H (by simp)
     ·rw [if_neg c18] at H
      exact absurd H (by simp)
    ·rw [if_neg c17] at H
     exact absurd H (by simp)
   ·rw [if_neg c16] at H
    have c16b0 : decide (x29_1 < (t165.length : Int)) = false := decide_eq_false c16
    clear c16
    obtain rfl := Option.some.inj H
    go_wp2
    go_ret
    exact ⟨_, by first | rfl | (simp [errW_none, errW_some] <;> rfl) | (simp [*, errW_none, errW_some] <;> rfl), by (with_reducible repeat (first | apply Kd.N_alloc | apply Kd.N_drewN | apply Kd.N_drew)); exact Kd.N_mono HO_11.out (fun _ hk => hk.1), by repeat (first | (with_reducible first | exact HB.out | apply below_alloc | apply pw_below_drewN | apply below_drew1 | refine below_set ?_ GE164.out) | exact HB.out)⟩

end Go.Proofs.Ytkhbpjhlekldpaa.PLift
