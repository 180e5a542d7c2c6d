/- The law LiftSame of layer 23 answers true for every two answers of little bulk, and leaves them as they were. Condition: what comes in holds together at most 1048576 values and letters. -/
import Derived.Test.YtkhbpjhlekldpaaRows
import Derived.Test.YtkhbpjhlekldpaaLiftSm
import Derived.Test.YtkhbpjhlekldpaaOpenK
namespace Go.Proofs.Ytkhbpjhlekldpaa.liftSame
open Go.ChangeShapes Go.WideShapes Go.ChangeAt Go.RowKit Go.Proofs.Ytkhbpjhlekldpaa.Open Go.Proofs.Ytkhbpjhlekldpaa.OpenK Go.Proofs.Ytkhbpjhlekldpaa.PLift
open Go.Proofs.YtkhbpjhlekldpaaW.PrintWords (Kd)
set_option linter.unusedVariables false
theorem own : ownKnob Try.prog.godebug = none := by kernel_rfl
theorem laidOut : laidOutB Try.prog = true := by kernel_rfl
def ok_S64 {H : Type} (y : S64) (D : DataW H) : Prop := ∃ D0 D1 D2, D = .agg [D0, D1, D2] ∧ (fun (y : Bool) D => D = .lit (.bool y)) y.f0 D0  ∧ (fun (y : Bool) D => D = .lit (.bool y)) y.f1 D1  ∧ (OkRow (fun (y : Int) D => (Lit.int .i64 y).wf = true ∧ D = .lit (.int .i64 y))) y.f2 D2
theorem opens_S64 {H : Type} {enc : TypeId × Value → H} {w : World} {base : Nat} {spare : Nat → Bool} {held : Bool} : Opens enc Try.prog w base spare held 64 k64 ok_S64 := by
  intro n cs x h
  obtain ⟨xs, n_, _, rfl, hl, hlen, hf⟩ := DataW.trod_struct Try.underlying64 h
  match xs, hlen with
  | [y0, y1, y2], _ =>
    obtain ⟨x0, k0, o0⟩ := (show Opens enc Try.prog w base spare held _ Kd.bool (fun (y : Bool) D => D = .lit (.bool y)) from (opens_bool Try.underlying4)) _ _ _ ((hf 0 _ rfl).trans rfl)
    obtain ⟨x1, k1, o1⟩ := (show Opens enc Try.prog w base spare held _ Kd.bool (fun (y : Bool) D => D = .lit (.bool y)) from (opens_bool Try.underlying4)) _ _ _ ((hf 1 _ rfl).trans rfl)
    obtain ⟨x2, k2, o2⟩ := (show Opens enc Try.prog w base spare held _ (Kd.slice 3 (Kd.int .i64)) (OkRow (fun (y : Int) D => (Lit.int .i64 y).wf = true ∧ D = .lit (.int .i64 y))) from (opens_slice Try.underlying29 (by kernel_rfl) (opens_int Try.underlying3))) _ _ _ ((hf 2 _ rfl).trans rfl)
    refine ⟨⟨x0, x1, x2⟩, ?_, y0.1, y1.1, y2.1, rfl, o0, o1, o2⟩
    exact (pair_at (by kernel_rfl) k0 (pair_at (by kernel_rfl) k1 (last_at hl (by kernel_rfl) k2)))
set_option maxRecDepth 100000 in
theorem lifted (os : Os) (started : os.Started) (H : Type) (enc : TypeId × Value → H) (F : Stop.Interp) :
    ReturnsInHanded {} Try.checked os 6 .any ((Rows.OpenSpec.upto Rows.liftSameSpec).pre6 enc Try.prog Try.f6 Rows.liftSameUptoRow.domain false) (((Rows.OpenSpec.upto Rows.liftSameSpec).at F).post enc Try.prog Try.f6 false true false false) := by
  refine lifted_of_walk_upto (C := Try.checked) (tb := 4) own started (by kernel_rfl) Try.func6 laidOut rfl ?_ rfl Try.underlying4 ?_
    (OpenSpec.witness (enc := enc) (C := Try.checked) (s := Rows.OpenSpec.upto Rows.liftSameSpec) (k := Rows.uptoSmall) rfl false ⟨#[], #[.agg #[.bool false, .bool false, .slice none 0 0], .agg #[.bool false, .bool false, .slice none 0 0]], []⟩ 8 (by kernel_rfl) (by kernel_rfl) (by kernel_rfl)
      (x := ([.agg [.lit (.bool false), .lit (.bool false), .nil], .agg [.lit (.bool false), .lit (.bool false), .nil]], [], [])) (by kernel_rfl) rfl (by kernel_rfl)) ?_
  · intro ds h
    match ds, h with
    | [d0, d1], _ => rfl
  · intro t ht
    have : t = 64 := by simpa [Try.f6] using ht
    subst this
    · exact ⟨by kernel_rfl, of_decide_eq_true (by kernel_rfl)⟩
  · intro W base args ds p hval0 hA0 hbulk
    have hval : ∀ (j : Nat) t v, Try.f6.params[j]? = some t → args[j]? = some v → Value.okWide Try.prog W .any base t v := hval0
    have hA : DataW.TrodAll enc Try.prog W 0 (fun _ => true) true Try.f6.params.toList args.toList ds p := hA0
    rw [Try.params6] at hA hval
    obtain ⟨v0, vs0, d0, ds0, p0, q0, hargs, rfl, rfl, h0, r0⟩ := trodAll_cons hA
    obtain ⟨v1, vs1, d1, ds1, p1, q1, rfl, rfl, rfl, h1, r1⟩ := trodAll_cons r0
    obtain ⟨rfl, rfl, rfl⟩ := trodAll_nil r1
    obtain rfl : args = #[v0, v1] := by cases args; simp_all
    clear hA0 hval0
    obtain ⟨x0, cs0, rfl, hK0, hok0⟩ := open_agg Try.underlying64 (hval 0 _ v0 rfl rfl) (opens_S64 (enc := enc) (w := W)) h0
    obtain ⟨A0_2, c0_2, hcs0, hc0_2, hr0_2⟩ := Go.Proofs.Ytkhbpjhlekldpaa.PLift.k64_open hK0
    obtain rfl := agg_eq hcs0
    obtain ⟨x1, cs1, rfl, hK1, hok1⟩ := open_agg Try.underlying64 (hval 1 _ v1 rfl rfl) (opens_S64 (enc := enc) (w := W)) h1
    obtain ⟨A1_2, c1_2, hcs1, hc1_2, hr1_2⟩ := Go.Proofs.Ytkhbpjhlekldpaa.PLift.k64_open hK1
    obtain rfl := agg_eq hcs1
    simp only [Rows.uptoBulkAll] at hbulk
    have e1 : x0.f2.length ≤ 1048576 := by
      obtain ⟨D0, D1, D2, rfl, _, _, o2⟩ := hok0
      have := OkRow.length_le o2
      simp only [Rows.uptoBulk, Rows.uptoBulkAll] at hbulk
      omega
    obtain ⟨k, hk⟩ := LiftQ.lsame x0.f0 x0.f1 x1.f0 x1.f1 x0.f2 x1.f2 (by omega)
    exact (maquettelaw23_LiftSame.calls k _ _ _ _ _ _ _ _ _ _ true W hr0_2 hc0_2 hr1_2 hc1_2 hk).mono fun e W' ⟨he, hb⟩ => ⟨he, hb⟩
theorem over : Rows.liftSameUptoRow.holds Try.pinned (Rows.OpenSpec.upto Rows.liftSameSpec) :=
  OpenClaim.holds_of_cond 6 Try.f6 rfl rfl rfl rfl rfl rfl rfl ⟨rfl, rfl, rfl, rfl, rfl⟩ rfl rfl rfl rfl rfl (by kernel_rfl) Try.func6 (by kernel_rfl)
    (of_decide_eq_true (by kernel_rfl)) (by unfold Func.isWrapper; first | (rw [if_pos (by decide +kernel)]; kernel_rfl) | (rw [if_neg (by decide +kernel)]; exact ⟨rfl, rfl⟩))
    (fun os started H enc _ F => lifted os started H enc F)
theorem proved : Rows.LiftSameUptoSaid := over
#print axioms proved
end Go.Proofs.Ytkhbpjhlekldpaa.liftSame
