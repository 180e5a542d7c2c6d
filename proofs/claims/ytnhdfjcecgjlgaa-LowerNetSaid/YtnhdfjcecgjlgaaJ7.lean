/- Texts of this work, joined: PNtx21, PNtx22. -/
import Derived.Test.YtnhdfjcecgjlgaaShort
import Derived.Test.YtnhdfjcecgjlgaaSh2
import Derived.Test.YtnhdfjcecgjlgaaPNtx0
import Derived.Test.YtnhdfjcecgjlgaaCl
import Derived.Test.YtnhdfjcecgjlgaaBridge
import Derived.Test.YtnhdfjcecgjlgaaPNtx3
section
namespace Go.Proofs.Ytnhdfjcecgjlgaa.PNt
open Go.RowKit Go.Proofs.Ytnhdfjcecgjlgaa.Short Go.Proofs.YtnhdfjcecgjlgaaW.PrintWords Go.Proofs.YtnhdfjcecgjlgaaW.PrintLast Go.Proofs.YtnhdfjcecgjlgaaW.PrintMore
attribute [local go_sem] max2_int min2_int max_two min_two max_three min_three max_four min_four
set_option linter.unusedVariables false
set_option linter.unusedSimpArgs false
def maquettelaw13_index.l0 : Nat → ByteArray → List (S51) → Int → Int → Option (Int)
 | 0, _, _, _, _ => none
 | k + 1, x1, x8, x9, x10 => if x10 < x9 then (if 0 ≤ x10 then (if x10 < (x8.length : Int) then (if ((rd_T51 x8 x10).f0).toList = x1.toList then (some x10) else (maquettelaw13_index.l0 k x1 x8 x9 (wrap64 (x10 + 1)))) else (none)) else (none)) else (some (-1))
def maquettelaw13_index.f (k : Nat) (l0_0 : List (S59)) (l0_1 : List (S51)) (a1 : ByteArray) : Option (Int) := maquettelaw13_index.l0 k a1 l0_1 (l0_1.length : Int) 0
set_option maxHeartbeats 8000000 in
set_option maxRecDepth 100000 in
theorem maquettelaw13_index.calls (k : Nat) (A0_0 : Option Addr) (c0_0 : Nat) (l0_0 : List (S59)) (A0_1 : Option Addr) (c0_1 : Nat) (l0_1 : List (S51)) (a1 : ByteArray) (r : Int) (w : World) (hr0_0 : Kd.C k59 w A0_0 l0_0.length l0_0) (hc0_0 : l0_0.length ≤ c0_0) (hr0_1 : Kd.C k51 w A0_1 l0_1.length l0_1) (hc0_1 : l0_1.length ≤ c0_1) (h : maquettelaw13_index.f k l0_0 l0_1 a1 = some r) :
  Calls Try.prog 24 #[.agg #[.slice A0_0 l0_0.length c0_0, .slice A0_1 l0_1.length c0_1], .string a1] w fun e w' => e = .returned (.int .i64 r) ∧ Below w.heap.size w w' := by
 have hu30 := Try.underlying30; have hu51 := Try.underlying51; have HR0_0 := A_ hr0_0; have HC0_0 := A_ hc0_0; clear hr0_0 hc0_0; have HR0_1 := A_ hr0_1; have HC0_1 := A_ hc0_1; clear hr0_1 hc0_1; have HB := A_ (Below.refl w.heap.size w); unfold maquettelaw13_index.f at h; have H := h; clear h; have H' := A_ H; clear H; go_enter Try.func24, Try.ntmps24; go_wp2_with (first | ((with_reducible refine gate_dst (N := 2) rfl ?_); refine bx 2 (cs := #[.slice A0_0 l0_0.length c0_0, .slice A0_1 l0_1.length c0_1]) (t := 30) (h := ?_); intro gb233 hg w3 hbox hb; have BK233 := A_ hbox; have GW233 : Aside0 (w.heap.size ≤ gb233) := bge hg; replace HB := bst hb; clear hb hbox hg; have hcz4 := bc2 BK233)); go_loopg [10] k (fun kq v10 w' => ∃ (x10_1 : Int), v10 = .int .i64 x10_1 ∧ Aside0 (maquettelaw13_index.l0 kq a1 l0_1 (l0_1.length : Int) x10_1 = some r) ∧ Aside0 (kq ≤ k) ∧ Aside0 (w'.heap[gb233]? = some (.cells #[(.slice A0_0 l0_0.length c0_0), (.slice A0_1 l0_1.length c0_1)] 30 (0, 0))) ∧ Aside0 (Below w.heap.size w w'))
 case atStart => exact ⟨(0), eqs, H', ⟨Nat.le_refl _⟩, ⟨bkq BK233⟩, ⟨bel⟩⟩
 case round =>
  clear H'; (try clear c2); (try clear p2); (try clear hcz4); obtain ⟨x10_1, rfl, HA, HK1, BK233, HB⟩ := hrel
  cases gk with
  | zero => exact absurd HA.out (by simp [maquettelaw13_index.l0])
  | succ k1 =>
   have H := HA.out; clear HA; simp only [maquettelaw13_index.l0] at H; by_cases c5 : x10_1 < (l0_1.length : Int)
   ·rw [if_pos c5] at H
    have c5b0 := decide_eq_true c5; clear c5; by_cases c6 : 0 ≤ x10_1
    ·rw [if_pos c6] at H
     have c6b0 := decide_eq_true c6; clear c6; by_cases c7 : x10_1 < (l0_1.length : Int)
     ·rw [if_pos c7] at H
      have c7b0 := decide_eq_true c7; clear c7; by_cases c8 : ((rd_T51 l0_1 x10_1).f0).toList = a1.toList
      ·rw [if_pos c8] at H
       have c8b0 : (((rd_T51 l0_1 x10_1).f0).toList == a1.toList) = true := beq_iff_eq.mpr c8; have c8b1 : (((rd_T51 l0_1 x10_1).f0).toList != a1.toList) = false := bne_eq_false_iff_eq.mpr c8; clear c8; obtain rfl := Option.some.inj H; have p234 : 0 ≤ (x10_1 : Int) := odt; have q234 : x10_1 < (l0_1.length : Int) := odt; obtain ⟨ad234, A234_1, c234_1, A234_2, c234_2, A234_3, c234_3, e234, hx234_0, hx234_1, hx234_2, hx234_3, hx234_4, hl234_1, hi234_1, hl234_2, hi234_2, hl234_3, hi234_3⟩ := at_T51 HR0_1.out x10_1 p234 q234; cases e234; replace hx234_0 := hbc HB hx234_0; replace hx234_1 := hbc HB hx234_1; replace hx234_2 := hbc HB hx234_2; replace hx234_3 := hbc HB hx234_3; replace hx234_4 := hbc HB hx234_4; have HR234_1 := A_ hi234_1; have HC234_1 := A_ hl234_1; clear hi234_1 hl234_1; have HR234_2 := A_ hi234_2; have HC234_2 := A_ hl234_2; clear hi234_2 hl234_2; have HR234_3 := A_ hi234_3; have HC234_3 := A_ hl234_3; clear hi234_3 hl234_3; replace p234 := eq_true p234; replace q234 := eq_true q234; go_wp2_with (first | ((with_reducible refine gate_dst (N := 6) rfl ?_); refine bx 6 (cs := #[.string (⟨#[]⟩ : ByteArray), .slice none 0 0, .slice none 0 0, .slice none 0 0, .int .i64 0]) (t := 51) (h := ?_); intro gb235 hg w9 hbox hb; have BK235 := A_ hbox; have GW235 : Aside0 (w.heap.size ≤ gb235) := bge hg; have NB233_235 := bne BK233 hg; have NB235_233 := bnf BK233 hg; replace BK233 := bkb BK233 hb; replace HB := bst hb; clear hb hbox hg; have hnb10 := NB235_233.out; have hnc10 := NB233_235.out; have hcz11 := bc5 BK235)); go_ret; exact ⟨eqd, bel⟩
      ·rw [if_neg c8] at H
       have c8b0 : (((rd_T51 l0_1 x10_1).f0).toList == a1.toList) = false := beq_eq_false_iff_ne.mpr c8; have c8b1 : (((rd_T51 l0_1 x10_1).f0).toList != a1.toList) = true := bne_iff_ne.mpr c8; have H' := A_ H; clear H; have p234 : 0 ≤ (x10_1 : Int) := odt; have q234 : x10_1 < (l0_1.length : Int) := odt; obtain ⟨ad234, A234_1, c234_1, A234_2, c234_2, A234_3, c234_3, e234, hx234_0, hx234_1, hx234_2, hx234_3, hx234_4, hl234_1, hi234_1, hl234_2, hi234_2, hl234_3, hi234_3⟩ := at_T51 HR0_1.out x10_1 p234 q234; cases e234; replace hx234_0 := hbc HB hx234_0; replace hx234_1 := hbc HB hx234_1; replace hx234_2 := hbc HB hx234_2; replace hx234_3 := hbc HB hx234_3; replace hx234_4 := hbc HB hx234_4; have HR234_1 := A_ hi234_1; have HC234_1 := A_ hl234_1; clear hi234_1 hl234_1; have HR234_2 := A_ hi234_2; have HC234_2 := A_ hl234_2; clear hi234_2 hl234_2; have HR234_3 := A_ hi234_3; have HC234_3 := A_ hl234_3; clear hi234_3 hl234_3; replace p234 := eq_true p234; replace q234 := eq_true q234; go_wp2_with (first | ((with_reducible refine gate_dst (N := 6) rfl ?_); refine bx 6 (cs := #[.string (⟨#[]⟩ : ByteArray), .slice none 0 0, .slice none 0 0, .slice none 0 0, .int .i64 0]) (t := 51) (h := ?_); intro gb235 hg w12 hbox hb; have BK235 := A_ hbox; have GW235 : Aside0 (w.heap.size ≤ gb235) := bge hg; have NB233_235 := bne BK233 hg; have NB235_233 := bnf BK233 hg; replace BK233 := bkb BK233 hb; replace HB := bst hb; clear hb hbox hg; have hnb13 := NB235_233.out; have hnc13 := NB233_235.out; have hcz14 := bc5 BK235)); go_roundg k1
       case measure => have := HK1.out; omega
       case rel => exact ⟨(wrap64 (x10_1 + 1)), eqs, H', ⟨by have := HK1.out; omega⟩, ⟨bkq BK233⟩, ⟨bel⟩⟩
     ·rw [if_neg c7] at H
      exact absurd H (by simp)
    ·rw [if_neg c6] at H
     exact absurd H (by simp)
   ·rw [if_neg c5] at H
    have c5b0 := decide_eq_false c5; clear c5; obtain rfl := Option.some.inj H; go_wp2; go_ret; exact ⟨eqd, bel⟩
def clause_For.f (k : Nat) (l0 : List (S81)) (a1_0 : Int) (a1_1 : Int) : Option (List (S81)) := if l0.length ≤ 2000000000000 then some ((Go.Proofs.Ytnhdfjcecgjlgaa.Cls.forB ⟨a1_0, a1_1⟩ (l0.map toCl)).map frCl) else none
theorem M_frCl {w : World} {S : Nat → Prop} (y : Go.Proofs.Ytnhdfjcecgjlgaa.Mq.Cl) (cs : List Value) (h : Go.Proofs.Ytnhdfjcecgjlgaa.Mq.clR.K w S y cs) (W : World) (b : Nat) (ok : Nat → Prop) : k81.M W b ok (frCl y) cs := by
  have h_ : cs = Go.Proofs.Ytnhdfjcecgjlgaa.Mq.Cl.enc y := h; subst h_; exact k81_mkM W b ok (frCl y)
theorem clause_For.calls (k : Nat) (A0 : Option Addr) (c0 : Nat) (l0 : List (S81)) (a1_0 : Int) (a1_1 : Int) (r : List (S81)) (w : World) (hr0 : Kd.C k81 w A0 l0.length l0) (hc0 : l0.length ≤ c0) (h : clause_For.f k l0 a1_0 a1_1 = some r) :
  Calls Try.prog 30 #[.slice A0 l0.length c0, .agg #[.int .u32 a1_0, .int .i64 a1_1]] w fun e w' => ∃ v0_ : Value, e = .returned (v0_) ∧ Kd.R k81 81 w' w.heap.size (fun _ => True) v0_ r ∧ Below w.heap.size w w' := by
  unfold clause_For.f at h; split at h
  · rename_i hl
    obtain rfl := Option.some.inj h; have hc := Go.Proofs.Ytnhdfjcecgjlgaa.Cls.for_calls (c0 := c0) (Go.Proofs.Ytnhdfjcecgjlgaa.Bridge.row_of_C toCl rfl (show 0 < 10 by decide) (fun x cs hk => K_toCl x cs hk) hr0) (by rw [List.length_map]; exact hl) a1_0 a1_1; rw [List.length_map] at hc; refine hc.mono ?_; rintro e w' ⟨v, rfl, H⟩; exact ⟨v, rfl, Go.Proofs.Ytnhdfjcecgjlgaa.Bridge.R_of_own (d := k81) frCl rfl (fun w S y cs hk W b ok => M_frCl y cs hk W b ok) H, H.below⟩
  · cases h
end Go.Proofs.Ytnhdfjcecgjlgaa.PNt
end
