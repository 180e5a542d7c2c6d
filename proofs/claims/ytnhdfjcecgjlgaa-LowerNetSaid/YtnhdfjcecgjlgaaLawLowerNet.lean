/- The law LowerNet of layer 13 answers true for every shape and every number of 8 bits; and leaves them as they were. No condition. -/
import Derived.Test.YtnhdfjcecgjlgaaRows
import Derived.Test.YtnhdfjcecgjlgaaLoQ
import Derived.Test.YtnhdfjcecgjlgaaJ9
namespace Go.Proofs.Ytnhdfjcecgjlgaa.lowerNet
open Go.ChangeShapes Go.WideShapes Go.ChangeAt Go.RowKit Go.Proofs.Ytnhdfjcecgjlgaa.Open Go.Proofs.Ytnhdfjcecgjlgaa.OpenK Go.Proofs.Ytnhdfjcecgjlgaa.PNt
open Go.Proofs.YtnhdfjcecgjlgaaW.PrintWords (Kd)
set_option linter.unusedVariables false
theorem own : ownKnob Try.prog.godebug = none := by kernel_rfl
theorem laidOut : laidOutB Try.prog = true := by kernel_rfl
structure S25 where
  f0 : Int
  f1 : (List Int)
  f2 : (List (List S79))
  f3 : (List Int)
  f4 : (List Int)
  f5 : (List Int)
def k25 : Kd S25 := Kd.iso (Kd.pair (Kd.int .u8) (Kd.pair (Kd.slice 5 (Kd.int .u8)) (Kd.pair (Kd.slice 56 (Kd.slice 79 k79)) (Kd.pair (Kd.slice 5 (Kd.int .u8)) (Kd.pair (Kd.slice 5 (Kd.int .u8)) (Kd.slice 5 (Kd.int .u8))))))) (fun x : S25 => (x.f0, x.f1, x.f2, x.f3, x.f4, x.f5))
theorem k25_open {w : World} {x : S25} {cs : List Value} (h : k25.K w x cs) : ∃ A1 c1 A2 c2 A3 c3 A4 c4 A5 c5, cs = [.int .u8 x.f0, .slice A1 x.f1.length c1, .slice A2 x.f2.length c2, .slice A3 x.f3.length c3, .slice A4 x.f4.length c4, .slice A5 x.f5.length c5] ∧ x.f1.length ≤ c1 ∧ Kd.C (Kd.int .u8) w A1 x.f1.length x.f1 ∧ x.f2.length ≤ c2 ∧ Kd.C (Kd.slice 79 k79) w A2 x.f2.length x.f2 ∧ x.f3.length ≤ c3 ∧ Kd.C (Kd.int .u8) w A3 x.f3.length x.f3 ∧ x.f4.length ≤ c4 ∧ Kd.C (Kd.int .u8) w A4 x.f4.length x.f4 ∧ x.f5.length ≤ c5 ∧ Kd.C (Kd.int .u8) w A5 x.f5.length x.f5 := by
  obtain ⟨_, _, rfl, rfl, ⟨_, _, rfl, ⟨A1, c1, rfl, l1, g1⟩, ⟨_, _, rfl, ⟨A2, c2, rfl, l2, g2⟩, ⟨_, _, rfl, ⟨A3, c3, rfl, l3, g3⟩, ⟨_, _, rfl, ⟨A4, c4, rfl, l4, g4⟩, ⟨A5, c5, rfl, l5, g5⟩⟩⟩⟩⟩⟩ := h
  exact ⟨A1, c1, A2, c2, A3, c3, A4, c4, A5, c5, rfl, l1, g1, l2, g2, l3, g3, l4, g4, l5, g5⟩
def ok_S79 {H : Type} (y : S79) (D : DataW H) : Prop := ∃ D0 D1 D2 D3 D4 D5, D = .agg [D0, D1, D2, D3, D4, D5] ∧ (fun (y : Int) D => (Lit.int .u8 y).wf = true ∧ D = .lit (.int .u8 y)) y.f0 D0  ∧ (fun (y : Int) D => (Lit.int .u8 y).wf = true ∧ D = .lit (.int .u8 y)) y.f1 D1  ∧ (fun (y : Int) D => (Lit.int .u8 y).wf = true ∧ D = .lit (.int .u8 y)) y.f2 D2  ∧ (fun (y : Int) D => (Lit.int .u8 y).wf = true ∧ D = .lit (.int .u8 y)) y.f3 D3  ∧ (fun (y : Int) D => (Lit.int .u8 y).wf = true ∧ D = .lit (.int .u8 y)) y.f4 D4  ∧ (fun (y : Int) D => (Lit.int .u8 y).wf = true ∧ D = .lit (.int .u8 y)) y.f5 D5
theorem opens_S79 {H : Type} {enc : TypeId × Value → H} {w : World} {base : Nat} {spare : Nat → Bool} {held : Bool} : Opens enc Try.prog w base spare held 79 k79 ok_S79 := by
  intro n cs x h
  obtain ⟨xs, n_, _, rfl, hl, hlen, hf⟩ := DataW.trod_struct Try.underlying79 h
  match xs, hlen with
  | [y0, y1, y2, y3, y4, y5], _ =>
    obtain ⟨x0, k0, o0⟩ := (show Opens enc Try.prog w base spare held _ (Kd.int .u8) (fun (y : Int) D => (Lit.int .u8 y).wf = true ∧ D = .lit (.int .u8 y)) from (opens_int Try.underlying5)) _ _ _ ((hf 0 _ rfl).trans rfl)
    obtain ⟨x1, k1, o1⟩ := (show Opens enc Try.prog w base spare held _ (Kd.int .u8) (fun (y : Int) D => (Lit.int .u8 y).wf = true ∧ D = .lit (.int .u8 y)) from (opens_int Try.underlying5)) _ _ _ ((hf 1 _ rfl).trans rfl)
    obtain ⟨x2, k2, o2⟩ := (show Opens enc Try.prog w base spare held _ (Kd.int .u8) (fun (y : Int) D => (Lit.int .u8 y).wf = true ∧ D = .lit (.int .u8 y)) from (opens_int Try.underlying5)) _ _ _ ((hf 2 _ rfl).trans rfl)
    obtain ⟨x3, k3, o3⟩ := (show Opens enc Try.prog w base spare held _ (Kd.int .u8) (fun (y : Int) D => (Lit.int .u8 y).wf = true ∧ D = .lit (.int .u8 y)) from (opens_int Try.underlying5)) _ _ _ ((hf 3 _ rfl).trans rfl)
    obtain ⟨x4, k4, o4⟩ := (show Opens enc Try.prog w base spare held _ (Kd.int .u8) (fun (y : Int) D => (Lit.int .u8 y).wf = true ∧ D = .lit (.int .u8 y)) from (opens_int Try.underlying5)) _ _ _ ((hf 4 _ rfl).trans rfl)
    obtain ⟨x5, k5, o5⟩ := (show Opens enc Try.prog w base spare held _ (Kd.int .u8) (fun (y : Int) D => (Lit.int .u8 y).wf = true ∧ D = .lit (.int .u8 y)) from (opens_int Try.underlying5)) _ _ _ ((hf 5 _ rfl).trans rfl)
    refine ⟨⟨x0, x1, x2, x3, x4, x5⟩, ?_, y0.1, y1.1, y2.1, y3.1, y4.1, y5.1, rfl, o0, o1, o2, o3, o4, o5⟩
    exact (pair_at (by kernel_rfl) k0 (pair_at (by kernel_rfl) k1 (pair_at (by kernel_rfl) k2 (pair_at (by kernel_rfl) k3 (pair_at (by kernel_rfl) k4 (last_at hl (by kernel_rfl) k5))))))
def ok_S25 {H : Type} (y : S25) (D : DataW H) : Prop := ∃ D0 D1 D2 D3 D4 D5, D = .agg [D0, D1, D2, D3, D4, D5] ∧ (fun (y : Int) D => (Lit.int .u8 y).wf = true ∧ D = .lit (.int .u8 y)) y.f0 D0  ∧ (OkRow (fun (y : Int) D => (Lit.int .u8 y).wf = true ∧ D = .lit (.int .u8 y))) y.f1 D1  ∧ (OkRow (OkRow ok_S79)) y.f2 D2  ∧ (OkRow (fun (y : Int) D => (Lit.int .u8 y).wf = true ∧ D = .lit (.int .u8 y))) y.f3 D3  ∧ (OkRow (fun (y : Int) D => (Lit.int .u8 y).wf = true ∧ D = .lit (.int .u8 y))) y.f4 D4  ∧ (OkRow (fun (y : Int) D => (Lit.int .u8 y).wf = true ∧ D = .lit (.int .u8 y))) y.f5 D5
theorem opens_S25 {H : Type} {enc : TypeId × Value → H} {w : World} {base : Nat} {spare : Nat → Bool} {held : Bool} : Opens enc Try.prog w base spare held 25 k25 ok_S25 := by
  intro n cs x h
  obtain ⟨xs, n_, _, rfl, hl, hlen, hf⟩ := DataW.trod_struct Try.underlying25 h
  match xs, hlen with
  | [y0, y1, y2, y3, y4, y5], _ =>
    obtain ⟨x0, k0, o0⟩ := (show Opens enc Try.prog w base spare held _ (Kd.int .u8) (fun (y : Int) D => (Lit.int .u8 y).wf = true ∧ D = .lit (.int .u8 y)) from (opens_int Try.underlying5)) _ _ _ ((hf 0 _ rfl).trans rfl)
    obtain ⟨x1, k1, o1⟩ := (show Opens enc Try.prog w base spare held _ (Kd.slice 5 (Kd.int .u8)) (OkRow (fun (y : Int) D => (Lit.int .u8 y).wf = true ∧ D = .lit (.int .u8 y))) from (opens_slice Try.underlying22 (by kernel_rfl) (opens_int Try.underlying5))) _ _ _ ((hf 1 _ rfl).trans rfl)
    obtain ⟨x2, k2, o2⟩ := (show Opens enc Try.prog w base spare held _ (Kd.slice 56 (Kd.slice 79 k79)) (OkRow (OkRow ok_S79)) from (opens_slice Try.underlying23 (by kernel_rfl) (opens_slice Try.underlying56 (by kernel_rfl) opens_S79))) _ _ _ ((hf 2 _ rfl).trans rfl)
    obtain ⟨x3, k3, o3⟩ := (show Opens enc Try.prog w base spare held _ (Kd.slice 5 (Kd.int .u8)) (OkRow (fun (y : Int) D => (Lit.int .u8 y).wf = true ∧ D = .lit (.int .u8 y))) from (opens_slice Try.underlying22 (by kernel_rfl) (opens_int Try.underlying5))) _ _ _ ((hf 3 _ rfl).trans rfl)
    obtain ⟨x4, k4, o4⟩ := (show Opens enc Try.prog w base spare held _ (Kd.slice 5 (Kd.int .u8)) (OkRow (fun (y : Int) D => (Lit.int .u8 y).wf = true ∧ D = .lit (.int .u8 y))) from (opens_slice Try.underlying22 (by kernel_rfl) (opens_int Try.underlying5))) _ _ _ ((hf 4 _ rfl).trans rfl)
    obtain ⟨x5, k5, o5⟩ := (show Opens enc Try.prog w base spare held _ (Kd.slice 5 (Kd.int .u8)) (OkRow (fun (y : Int) D => (Lit.int .u8 y).wf = true ∧ D = .lit (.int .u8 y))) from (opens_slice Try.underlying22 (by kernel_rfl) (opens_int Try.underlying5))) _ _ _ ((hf 5 _ rfl).trans rfl)
    refine ⟨⟨x0, x1, x2, x3, x4, x5⟩, ?_, y0.1, y1.1, y2.1, y3.1, y4.1, y5.1, rfl, o0, o1, o2, o3, o4, o5⟩
    exact (pair_at (by kernel_rfl) k0 (pair_at (by kernel_rfl) k1 (pair_at (by kernel_rfl) k2 (pair_at (by kernel_rfl) k3 (pair_at (by kernel_rfl) k4 (last_at hl (by kernel_rfl) k5))))))
set_option maxRecDepth 100000 in
theorem lifted (os : Os) (started : os.Started) (H : Type) (enc : TypeId × Value → H) :
    ReturnsInHanded {} Try.checked os 3 .any (Rows.lowerNetSpec.pre6 enc Try.prog Try.f3 Rows.lowerNetRow.domain false) (Rows.lowerNetSpec.post enc Try.prog Try.f3 false true false false) := by
  refine lifted_of_walk (C := Try.checked) (tb := 4) own started (by kernel_rfl) Try.func3 laidOut rfl ?_ rfl Try.underlying4 ?_ (ChangeSpec.witness6 (enc := enc) (C := Try.checked) false ⟨#[], #[.agg #[.int .u8 0, .slice none 0 0, .slice none 0 0, .slice none 0 0, .slice none 0 0, .slice none 0 0], .int .u8 0], []⟩ 8 (by kernel_rfl) (by kernel_rfl) (by kernel_rfl) (by kernel_rfl)) ?_
  · intro ds h
    match ds, h with
    | [d0, d1], _ => rfl
  · intro t ht
    have h_ : t ∈ [25, 5] := ht
    simp only [List.mem_cons, List.not_mem_nil, or_false] at h_
    rcases h_ with rfl | rfl
    · exact ⟨by kernel_rfl, of_decide_eq_true (by kernel_rfl)⟩
    · exact ⟨by kernel_rfl, of_decide_eq_true (by kernel_rfl)⟩
  · intro W base args ds p hval0 hA0 hsz0
    have hval : ∀ (j : Nat) t v, Try.f3.params[j]? = some t → args[j]? = some v → Value.okWide Try.prog W .any base t v := hval0
    have hA : DataW.TrodAll enc Try.prog W 0 (fun _ => true) true Try.f3.params.toList args.toList ds p := hA0
    rw [Try.params3] at hA hval
    obtain ⟨v0, vs0, d0, ds0, p0, q0, hargs, rfl, rfl, h0, r0⟩ := trodAll_cons hA
    obtain ⟨v1, vs1, d1, ds1, p1, q1, rfl, rfl, rfl, h1, r1⟩ := trodAll_cons r0
    obtain ⟨rfl, rfl, rfl⟩ := trodAll_nil r1
    obtain rfl : args = #[v0, v1] := by cases args; simp_all
    clear hA0 hval0
    obtain ⟨x0, cs0, rfl, hK0, hok0⟩ := open_agg Try.underlying25 (hval 0 _ v0 rfl rfl) (opens_S25 (enc := enc) (w := W)) h0
    obtain ⟨A0_1, c0_1, A0_2, c0_2, A0_3, c0_3, A0_4, c0_4, A0_5, c0_5, hcs0, hc0_1, hr0_1, hc0_2, hr0_2, hc0_3, hr0_3, hc0_4, hr0_4, hc0_5, hr0_5⟩ := k25_open hK0
    obtain rfl := agg_eq hcs0
    obtain ⟨n, rfl, rfl, rfl, hw1⟩ := open_int Try.underlying5 (hval 1 _ v1 rfl rfl) h1
    have hS0 : Cfg.Shape x0.f0 x0.f1 x0.f2 x0.f3 x0.f4 x0.f5 := by
      obtain ⟨Ea, Eb, Ec, Ed, Ee, Ef, _, sa, sb, sc, sd, se, sf⟩ := hok0
      have hB : ∀ (l : List Int) (D : DataW H), OkRow (fun (y : Int) D => (Lit.int .u8 y).wf = true ∧ D = .lit (.int .u8 y)) l D → Cfg.okB l := fun l D h => OkRow.nth h (fun y e he => wf_u8' he.1)
      refine ⟨wf_u8' sa.1, hB _ _ sb, OkRow.nth sc ?_, hB _ _ sd, hB _ _ se, hB _ _ sf, hr0_2.2.1, fun l hl => ?_⟩
      · intro l e he
        refine OkRow.nth he ?_
        rintro y e ⟨F0, F1, F2, F3, F4, F5, _, q0, q1, q2, q3, q4, q5⟩
        exact ⟨wf_u8' q0.1, wf_u8' q1.1, wf_u8' q2.1, wf_u8' q3.1, wf_u8' q4.1, wf_u8' q5.1⟩
      · obtain ⟨i, hi⟩ := List.mem_iff_getElem?.1 hl
        obtain ⟨ad, _, hrow⟩ := hr0_2.2.2 (List.length_pos_of_mem hl)
        obtain ⟨c, _, ⟨A, n, _, _, hC⟩, _⟩ := hrow i l hi
        exact hC.2.1
    obtain ⟨k, hk⟩ := LoQ.lnet' hS0 n (wf_u8' hw1)
    exact (maquettelaw13_LowerNet.calls (hr0_1 := hr0_1) (hc0_1 := hc0_1) (hr0_2 := hr0_2) (hc0_2 := hc0_2) (hr0_3 := hr0_3) (hc0_3 := hc0_3) (hr0_4 := hr0_4) (hc0_4 := hc0_4) (hr0_5 := hr0_5) (hc0_5 := hc0_5) (h := hk)).mono fun e W' ⟨he, hb⟩ => ⟨he, hb⟩
theorem over : Rows.lowerNetRow.holds Try.pinned (OpenSpec.ofChange Rows.lowerNetSpec) :=
  OpenClaim.holds_of_wide 3 Try.f3 rfl rfl rfl rfl rfl rfl rfl ⟨rfl, rfl, rfl, rfl, rfl⟩ rfl rfl rfl rfl rfl (by kernel_rfl) Try.func3 (by kernel_rfl)
    (of_decide_eq_true (by kernel_rfl)) (by unfold Func.isWrapper; first | (rw [if_pos (by decide +kernel)]; kernel_rfl) | (rw [if_neg (by decide +kernel)]; exact ⟨rfl, rfl⟩))
    (fun os started H enc _ => lifted os started H enc)
theorem proved : Rows.LowerNetSaid := over
#print axioms proved
end Go.Proofs.Ytnhdfjcecgjlgaa.lowerNet
