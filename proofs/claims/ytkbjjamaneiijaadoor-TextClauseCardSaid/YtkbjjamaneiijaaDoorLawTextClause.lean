/- The law TextClause of layer 7 answers true for every clause and every rule, and leaves them as they were. No condition; the tables that the row lists are tied to the program's text. -/
import Derived.Test.YtkbjjamaneiijaaDoorRows
import Derived.Test.YtkbjjamaneiijaaDoorCards
import Derived.Test.YtkbjjamaneiijaaDoorTie
import Derived.Test.YtkbjjamaneiijaaDoorTxtC
import Derived.Test.YtkbjjamaneiijaaDoorDoorT
namespace Go.Proofs.YtkbjjamaneiijaaDoor.textClause
open Go.ChangeShapes Go.WideShapes Go.ChangeAt Go.RowKit Go.Proofs.YtkbjjamaneiijaaDoor.Open Go.Proofs.YtkbjjamaneiijaaDoor.OpenK Go.Proofs.YtkbjjamaneiijaaDoor.Door Go.Proofs.YtkbjjamaneiijaaDoor.PTxt
open Go.Proofs.YtkbjjamaneiijaaDoorW.PrintWords (Kd)
set_option linter.unusedVariables false
structure S44 where
  f0 : Int
  f1 : Int
  f2 : Int
  f3 : Int
  f4 : Int
  f5 : Int
def k44 : Kd S44 := Kd.iso (Kd.pair (Kd.int .u8) (Kd.pair (Kd.int .u8) (Kd.pair (Kd.int .u8) (Kd.pair (Kd.int .u8) (Kd.pair (Kd.int .u8) (Kd.int .u8)))))) (fun x : S44 => (x.f0, x.f1, x.f2, x.f3, x.f4, x.f5))
theorem k44_open {w : World} {x : S44} {cs : List Value} (h : k44.K w x cs) : cs = [.int .u8 x.f0, .int .u8 x.f1, .int .u8 x.f2, .int .u8 x.f3, .int .u8 x.f4, .int .u8 x.f5] := by
  obtain ⟨_, _, rfl, rfl, _, _, rfl, rfl, _, _, rfl, rfl, _, _, rfl, rfl, _, _, rfl, rfl, rfl⟩ := h
  rfl
def ok_S24 {H : Type} (y : S24) (D : DataW H) : Prop := ∃ D0 D1, D = .agg [D0, D1] ∧ (fun (y : Int) D => (Lit.int .u32 y).wf = true ∧ D = .lit (.int .u32 y)) y.f0 D0  ∧ (fun (y : Int) D => (Lit.int .i64 y).wf = true ∧ D = .lit (.int .i64 y)) y.f1 D1
theorem opens_S24 {H : Type} {enc : TypeId × Value → H} {w : World} {base : Nat} {spare : Nat → Bool} {held : Bool} : Opens enc Tryd.prog w base spare held 24 k24 ok_S24 := by
  intro n cs x h
  obtain ⟨xs, n_, _, rfl, hl, hlen, hf⟩ := DataW.trod_struct Tryd.underlying24 h
  match xs, hlen with
  | [y0, y1], _ =>
    obtain ⟨x0, k0, o0⟩ := (show Opens enc Tryd.prog w base spare held _ (Kd.int .u32) (fun (y : Int) D => (Lit.int .u32 y).wf = true ∧ D = .lit (.int .u32 y)) from (opens_int Tryd.underlying22)) _ _ _ ((hf 0 _ rfl).trans rfl)
    obtain ⟨x1, k1, o1⟩ := (show Opens enc Tryd.prog w base spare held _ (Kd.int .i64) (fun (y : Int) D => (Lit.int .i64 y).wf = true ∧ D = .lit (.int .i64 y)) from (opens_int Tryd.underlying3)) _ _ _ ((hf 1 _ rfl).trans rfl)
    refine ⟨⟨x0, x1⟩, ?_, y0.1, y1.1, rfl, o0, o1⟩
    exact (pair_at (by kernel_rfl) k0 (last_at hl (by kernel_rfl) k1))
def ok_S42 {H : Type} (y : S42) (D : DataW H) : Prop := ∃ D0 D1 D2 D3 D4 D5 D6 D7 D8, D = .agg [D0, D1, D2, D3, D4, D5, D6, D7, D8] ∧ (fun (y : Bool) D => D = .lit (.bool y)) y.f0 D0  ∧ ok_S24 y.f1 D1  ∧ (fun (y : Int) D => (Lit.int .u8 y).wf = true ∧ D = .lit (.int .u8 y)) y.f2 D2  ∧ (fun (y : Int) D => (Lit.int .u8 y).wf = true ∧ D = .lit (.int .u8 y)) y.f3 D3  ∧ (fun (y : Bool) D => D = .lit (.bool y)) y.f4 D4  ∧ (fun (y : Int) D => (Lit.int .u8 y).wf = true ∧ D = .lit (.int .u8 y)) y.f5 D5  ∧ (fun (y : Int) D => (Lit.int .u8 y).wf = true ∧ D = .lit (.int .u8 y)) y.f6 D6  ∧ (fun (y : Int) D => (Lit.int .i64 y).wf = true ∧ D = .lit (.int .i64 y)) y.f7 D7  ∧ (fun (y : Int) D => (Lit.int .i64 y).wf = true ∧ D = .lit (.int .i64 y)) y.f8 D8
theorem opens_S42 {H : Type} {enc : TypeId × Value → H} {w : World} {base : Nat} {spare : Nat → Bool} {held : Bool} : Opens enc Tryd.prog w base spare held 42 k42 ok_S42 := by
  intro n cs x h
  obtain ⟨xs, n_, _, rfl, hl, hlen, hf⟩ := DataW.trod_struct Tryd.underlying42 h
  match xs, hlen with
  | [y0, y1, y2, y3, y4, y5, y6, y7, y8], _ =>
    obtain ⟨x0, k0, o0⟩ := (show Opens enc Tryd.prog w base spare held _ Kd.bool (fun (y : Bool) D => D = .lit (.bool y)) from (opens_bool Tryd.underlying4)) _ _ _ ((hf 0 _ rfl).trans rfl)
    obtain ⟨x1, k1, o1⟩ := (show Opens enc Tryd.prog w base spare held _ k24 ok_S24 from opens_S24) _ _ _ ((hf 1 _ rfl).trans rfl)
    obtain ⟨x2, k2, o2⟩ := (show Opens enc Tryd.prog w base spare held _ (Kd.int .u8) (fun (y : Int) D => (Lit.int .u8 y).wf = true ∧ D = .lit (.int .u8 y)) from (opens_int Tryd.underlying5)) _ _ _ ((hf 2 _ rfl).trans rfl)
    obtain ⟨x3, k3, o3⟩ := (show Opens enc Tryd.prog w base spare held _ (Kd.int .u8) (fun (y : Int) D => (Lit.int .u8 y).wf = true ∧ D = .lit (.int .u8 y)) from (opens_int Tryd.underlying5)) _ _ _ ((hf 3 _ rfl).trans rfl)
    obtain ⟨x4, k4, o4⟩ := (show Opens enc Tryd.prog w base spare held _ Kd.bool (fun (y : Bool) D => D = .lit (.bool y)) from (opens_bool Tryd.underlying4)) _ _ _ ((hf 4 _ rfl).trans rfl)
    obtain ⟨x5, k5, o5⟩ := (show Opens enc Tryd.prog w base spare held _ (Kd.int .u8) (fun (y : Int) D => (Lit.int .u8 y).wf = true ∧ D = .lit (.int .u8 y)) from (opens_int Tryd.underlying5)) _ _ _ ((hf 5 _ rfl).trans rfl)
    obtain ⟨x6, k6, o6⟩ := (show Opens enc Tryd.prog w base spare held _ (Kd.int .u8) (fun (y : Int) D => (Lit.int .u8 y).wf = true ∧ D = .lit (.int .u8 y)) from (opens_int Tryd.underlying5)) _ _ _ ((hf 6 _ rfl).trans rfl)
    obtain ⟨x7, k7, o7⟩ := (show Opens enc Tryd.prog w base spare held _ (Kd.int .i64) (fun (y : Int) D => (Lit.int .i64 y).wf = true ∧ D = .lit (.int .i64 y)) from (opens_int Tryd.underlying3)) _ _ _ ((hf 7 _ rfl).trans rfl)
    obtain ⟨x8, k8, o8⟩ := (show Opens enc Tryd.prog w base spare held _ (Kd.int .i64) (fun (y : Int) D => (Lit.int .i64 y).wf = true ∧ D = .lit (.int .i64 y)) from (opens_int Tryd.underlying3)) _ _ _ ((hf 8 _ rfl).trans rfl)
    refine ⟨⟨x0, x1, x2, x3, x4, x5, x6, x7, x8⟩, ?_, y0.1, y1.1, y2.1, y3.1, y4.1, y5.1, y6.1, y7.1, y8.1, rfl, o0, o1, o2, o3, o4, o5, o6, o7, o8⟩
    exact (pair_at (by kernel_rfl) k0 (pair_at (by kernel_rfl) k1 (pair_at (by kernel_rfl) k2 (pair_at (by kernel_rfl) k3 (pair_at (by kernel_rfl) k4 (pair_at (by kernel_rfl) k5 (pair_at (by kernel_rfl) k6 (pair_at (by kernel_rfl) k7 (last_at hl (by kernel_rfl) k8)))))))))
def ok_S44 {H : Type} (y : S44) (D : DataW H) : Prop := ∃ D0 D1 D2 D3 D4 D5, D = .agg [D0, D1, D2, D3, D4, D5] ∧ (fun (y : Int) D => (Lit.int .u8 y).wf = true ∧ D = .lit (.int .u8 y)) y.f0 D0  ∧ (fun (y : Int) D => (Lit.int .u8 y).wf = true ∧ D = .lit (.int .u8 y)) y.f1 D1  ∧ (fun (y : Int) D => (Lit.int .u8 y).wf = true ∧ D = .lit (.int .u8 y)) y.f2 D2  ∧ (fun (y : Int) D => (Lit.int .u8 y).wf = true ∧ D = .lit (.int .u8 y)) y.f3 D3  ∧ (fun (y : Int) D => (Lit.int .u8 y).wf = true ∧ D = .lit (.int .u8 y)) y.f4 D4  ∧ (fun (y : Int) D => (Lit.int .u8 y).wf = true ∧ D = .lit (.int .u8 y)) y.f5 D5
theorem opens_S44 {H : Type} {enc : TypeId × Value → H} {w : World} {base : Nat} {spare : Nat → Bool} {held : Bool} : Opens enc Tryd.prog w base spare held 44 k44 ok_S44 := by
  intro n cs x h
  obtain ⟨xs, n_, _, rfl, hl, hlen, hf⟩ := DataW.trod_struct Tryd.underlying44 h
  match xs, hlen with
  | [y0, y1, y2, y3, y4, y5], _ =>
    obtain ⟨x0, k0, o0⟩ := (show Opens enc Tryd.prog w base spare held _ (Kd.int .u8) (fun (y : Int) D => (Lit.int .u8 y).wf = true ∧ D = .lit (.int .u8 y)) from (opens_int Tryd.underlying5)) _ _ _ ((hf 0 _ rfl).trans rfl)
    obtain ⟨x1, k1, o1⟩ := (show Opens enc Tryd.prog w base spare held _ (Kd.int .u8) (fun (y : Int) D => (Lit.int .u8 y).wf = true ∧ D = .lit (.int .u8 y)) from (opens_int Tryd.underlying5)) _ _ _ ((hf 1 _ rfl).trans rfl)
    obtain ⟨x2, k2, o2⟩ := (show Opens enc Tryd.prog w base spare held _ (Kd.int .u8) (fun (y : Int) D => (Lit.int .u8 y).wf = true ∧ D = .lit (.int .u8 y)) from (opens_int Tryd.underlying5)) _ _ _ ((hf 2 _ rfl).trans rfl)
    obtain ⟨x3, k3, o3⟩ := (show Opens enc Tryd.prog w base spare held _ (Kd.int .u8) (fun (y : Int) D => (Lit.int .u8 y).wf = true ∧ D = .lit (.int .u8 y)) from (opens_int Tryd.underlying5)) _ _ _ ((hf 3 _ rfl).trans rfl)
    obtain ⟨x4, k4, o4⟩ := (show Opens enc Tryd.prog w base spare held _ (Kd.int .u8) (fun (y : Int) D => (Lit.int .u8 y).wf = true ∧ D = .lit (.int .u8 y)) from (opens_int Tryd.underlying5)) _ _ _ ((hf 4 _ rfl).trans rfl)
    obtain ⟨x5, k5, o5⟩ := (show Opens enc Tryd.prog w base spare held _ (Kd.int .u8) (fun (y : Int) D => (Lit.int .u8 y).wf = true ∧ D = .lit (.int .u8 y)) from (opens_int Tryd.underlying5)) _ _ _ ((hf 5 _ rfl).trans rfl)
    refine ⟨⟨x0, x1, x2, x3, x4, x5⟩, ?_, y0.1, y1.1, y2.1, y3.1, y4.1, y5.1, rfl, o0, o1, o2, o3, o4, o5⟩
    exact (pair_at (by kernel_rfl) k0 (pair_at (by kernel_rfl) k1 (pair_at (by kernel_rfl) k2 (pair_at (by kernel_rfl) k3 (pair_at (by kernel_rfl) k4 (last_at hl (by kernel_rfl) k5))))))
theorem reads (os : Os) {H : Type} (enc : TypeId × Value → H) : ∃ places, DataW.whole enc Tryd.prog ((laidWorld os).forCall (fun _ _ => 0) ⟨#[], #[.agg #[.bool false, .int .u32 0, .int .i64 0, .int .u8 0, .int .u8 0, .bool false, .int .u8 0, .int .u8 0, .int .i64 0, .int .i64 0], .agg #[.int .u8 0, .int .u8 0, .int .u8 0, .int .u8 0, .int .u8 0, .int .u8 0]], []⟩).memory Tryd.f9.params.toList Rows.textClauseSpec.vars false (#[.agg #[.bool false, .int .u32 0, .int .i64 0, .int .u8 0, .int .u8 0, .bool false, .int .u8 0, .int .u8 0, .int .i64 0, .int .i64 0], .agg #[.int .u8 0, .int .u8 0, .int .u8 0, .int .u8 0, .int .u8 0, .int .u8 0]] : Array Value).toList 8 = some ([.agg [.lit (.bool false), .agg [.lit (.int .u32 0), .lit (.int .i64 0)], .lit (.int .u8 0), .lit (.int .u8 0), .lit (.bool false), .lit (.int .u8 0), .lit (.int .u8 0), .lit (.int .i64 0), .lit (.int .i64 0)], .agg [.lit (.int .u8 0), .lit (.int .u8 0), .lit (.int .u8 0), .lit (.int .u8 0), .lit (.int .u8 0), .lit (.int .u8 0)]], [], places) := ⟨[], by kernel_rfl⟩
set_option maxRecDepth 100000 in
theorem lifted (os : Os) (started : os.Started) (H : Type) (enc : TypeId × Value → H) (F : Stop.Interp) :
    ReturnsInHanded {} Tryd.checked os 9 .any ((OpenSpec.ofChange Rows.textClauseSpec).preRow enc Tryd.prog Tryd.f9 Rows.textClauseRow.domain false Rows.textClauseRow.laid) (((OpenSpec.ofChange Rows.textClauseSpec).at F).post enc Tryd.prog Tryd.f9 false true false false) := by
  obtain ⟨places, hx⟩ := reads os enc
  refine lifted_of_walk_row (C := Tryd.checked) (s := Rows.textClauseSpec) (s' := (OpenSpec.ofChange Rows.textClauseSpec)) (tb := 4) own started (by kernel_rfl) Tryd.func9 laidOut rfl (fun _ _ _ _ h => h) rfl ?_ rfl Tryd.underlying4 ?_
    (witness_row_atRef (enc := enc) (C := Tryd.checked) false (laidWorld os) #[.agg #[.bool false, .int .u32 0, .int .i64 0, .int .u8 0, .int .u8 0, .bool false, .int .u8 0, .int .u8 0, .int .i64 0, .int .i64 0], .agg #[.int .u8 0, .int .u8 0, .int .u8 0, .int .u8 0, .int .u8 0, .int .u8 0]] rfl (by kernel_rfl) (by kernel_rfl) (by kernel_rfl)
      (OpenSpec.preRow_of_cond 8 hx (by kernel_rfl) (fun k hk => by cases hk) (by kernel_rfl) (laid_metT os _))) ?_
  · intro ds h
    match ds, h with
    | [d0, d1], _ => rfl
  · intro t ht
    have : t = 42 ∨ t = 44 := by simpa [Tryd.f9] using ht
    rcases this with rfl | rfl
    · exact ⟨by kernel_rfl, of_decide_eq_true (by kernel_rfl)⟩
    · exact ⟨by kernel_rfl, of_decide_eq_true (by kernel_rfl)⟩
  · intro W base args ds p hval0 hA0 hcond hL hsh
    have hInv := inv_of_rowT (hL) hsh
    have hval : ∀ (j : Nat) t v, Tryd.f9.params[j]? = some t → args[j]? = some v → Value.okWide Tryd.prog W .any base t v := hval0
    have hA : DataW.TrodAll enc Tryd.prog W 0 (fun _ => true) true Tryd.f9.params.toList args.toList ds p := hA0
    rw [Tryd.params9] at hA hval
    obtain ⟨v0, vs0, d0, ds0, p0, q0, hargs, rfl, rfl, h0, r0⟩ := trodAll_cons hA
    obtain ⟨v1, vs1, d1, ds1, p1, q1, rfl, rfl, rfl, h1, r1⟩ := trodAll_cons r0
    obtain ⟨rfl, rfl, rfl⟩ := trodAll_nil r1
    obtain rfl : args = #[v0, v1] := by cases args; simp_all
    clear hA0 hval0
    obtain ⟨x0, cs0, rfl, hK0, hok0⟩ := open_agg Tryd.underlying42 (hval 0 _ v0 rfl rfl) (opens_S42 (enc := enc) (w := W)) h0
    have hcs0 := k42_open hK0
    obtain rfl := agg_eq hcs0
    obtain ⟨x1, cs1, rfl, hK1, hok1⟩ := open_agg Tryd.underlying44 (hval 1 _ v1 rfl rfl) (opens_S44 (enc := enc) (w := W)) h1
    have hcs1 := k44_open hK1
    obtain rfl := agg_eq hcs1
    obtain ⟨D0, D1, D2, D3, D4, D5, D6, D7, D8, _, o0, o1, o2, o3, o4, o5, o6, o7, o8⟩ := hok0
    obtain ⟨E0, E1, _, p0, p1⟩ := o1
    obtain ⟨F0, F1, F2, F3, F4, F5, _, q0, q1, q2, q3, q4, q5⟩ := hok1
    have a1 := wf_i64' p1.1
    have a2 := wf_u8' o2.1
    have a3 := wf_u8' o3.1
    have a5 := wf_u8' o5.1
    have a6 := wf_u8' o6.1
    have a7 := wf_i64' o7.1
    have a8 := wf_i64' o8.1
    exact (maquettelaw07_TextClause.calls 60 _ _ _ _ _ _ _ _ _ _ _ _ _ _ _ _ true W (TxtP.ltext _ _ _ _ _ _ _ _ _ _ _ _ _ _ _ _ a1.1 (by omega) a2.1 a2.2 a3.1 a3.2 a5.1 a5.2 a6.1 a6.2 (by omega) (by omega) (wf_u8' q0.1) (wf_u8' q1.1) (wf_u8' q2.1) (wf_u8' q3.1) (wf_u8' q4.1) (wf_u8' q5.1)) hInv).mono fun e W' ⟨he, hb⟩ => ⟨he, hb⟩
theorem over : Rows.textClauseRow.holds Tryd.pinned (OpenSpec.ofChange Rows.textClauseSpec) :=
  OpenClaim.holds_of_cond 9 Tryd.f9 rfl rfl rfl rfl rfl rfl rfl ⟨rfl, rfl, rfl, rfl, rfl⟩ rfl rfl rfl rfl rfl (by kernel_rfl) Tryd.func9 (by kernel_rfl)
    (of_decide_eq_true (by kernel_rfl)) (by unfold Func.isWrapper; first | (rw [if_pos (by decide +kernel)]; kernel_rfl) | (rw [if_neg (by decide +kernel)]; exact ⟨rfl, rfl⟩))
    (fun os started H enc _ F => by rw [OpenClaim.pre_eq_preRow]; exact lifted os started H enc F)
theorem said : Rows.TextClauseSaid := over
theorem plain (f : FuncId) (fn : Func) (hf : Tryd.pinned.checked.prog.funcNamed "maquette/maquettelaw07.TextClause" = some f) (hfn : Tryd.pinned.checked.prog.funcs[f]? = some fn) :
    true = Tryd.pinned.checked.prog.looks [] ∧ ∀ (j : Nat) t, fn.params[j]? = some t → Tryd.pinned.checked.prog.wantsStandIn t = false := by
  obtain rfl : f = 9 := Option.some.inj ((show Tryd.prog.funcNamed "maquette/maquettelaw07.TextClause" = some 9 by kernel_rfl).symm.trans hf) |>.symm
  obtain rfl : fn = Tryd.f9 := (Option.some.inj (Tryd.func9.symm.trans hfn)).symm
  refine ⟨by kernel_rfl, fun j t ht => ?_⟩
  rw [Tryd.params9] at ht
  have ht : t = 42 ∨ t = 44 := by have := Array.mem_of_getElem? ht; simpa using this
  rcases ht with rfl | rfl
  · exact (show Tryd.prog.wantsStandIn 42 = false by kernel_rfl)
  · exact (show Tryd.prog.wantsStandIn 44 = false by kernel_rfl)
theorem proved : Rows.TextClauseCardSaid :=
  Claim7.holds_tied_plain_at .later [] _ _ _ _ said (fun _ h => by cases h) (by kernel_rfl) (fun _ h => by cases h) textClause_row_tie rfl ⟨rfl, rfl⟩ (by kernel_rfl) rfl plain (by kernel_rfl)
#print axioms proved
end Go.Proofs.YtkbjjamaneiijaaDoor.textClause
