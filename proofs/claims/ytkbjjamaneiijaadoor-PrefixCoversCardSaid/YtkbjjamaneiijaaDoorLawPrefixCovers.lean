/- The law PrefixCovers of layer 5 answers true for every two numbers of 8 bits and every two prefixes, and leaves them as they were. No condition; the tables that the row lists are tied to the program's text. -/
import Derived.Test.YtkbjjamaneiijaaDoorRows
import Derived.Test.YtkbjjamaneiijaaDoorCards
import Derived.Test.YtkbjjamaneiijaaDoorTie
import Derived.Test.YtkbjjamaneiijaaDoorPreCov
import Derived.Test.YtkbjjamaneiijaaDoorDoor
namespace Go.Proofs.YtkbjjamaneiijaaDoor.prefixCovers
open Go.ChangeShapes Go.WideShapes Go.ChangeAt Go.RowKit Go.Proofs.YtkbjjamaneiijaaDoor.Open Go.Proofs.YtkbjjamaneiijaaDoor.OpenK Go.Proofs.YtkbjjamaneiijaaDoor.Door Go.Proofs.YtkbjjamaneiijaaDoor.PCov
open Go.Proofs.YtkbjjamaneiijaaDoorW.PrintWords (Kd)
set_option linter.unusedVariables false
structure S24 where
  f0 : Int
  f1 : Int
def k24 : Kd S24 := Kd.iso (Kd.pair (Kd.int .u32) (Kd.int .i64)) (fun x : S24 => (x.f0, x.f1))
theorem k24_open {w : World} {x : S24} {cs : List Value} (h : k24.K w x cs) : cs = [.int .u32 x.f0, .int .i64 x.f1] := by
  obtain ⟨_, _, rfl, rfl, rfl⟩ := h
  rfl
def ok_S24 {H : Type} (y : S24) (D : DataW H) : Prop := ∃ D0 D1, D = .agg [D0, D1] ∧ (fun (y : Int) D => (Lit.int .u32 y).wf = true ∧ D = .lit (.int .u32 y)) y.f0 D0  ∧ (fun (y : Int) D => (Lit.int .i64 y).wf = true ∧ D = .lit (.int .i64 y)) y.f1 D1
theorem opens_S24 {H : Type} {enc : TypeId × Value → H} {w : World} {base : Nat} {spare : Nat → Bool} {held : Bool} : Opens enc Tryd.prog w base spare held 24 k24 ok_S24 := by
  intro n cs x h
  obtain ⟨xs, n_, _, rfl, hl, hlen, hf⟩ := DataW.trod_struct Tryd.underlying24 h
  match xs, hlen with
  | [y0, y1], _ =>
    obtain ⟨x0, k0, o0⟩ := (show Opens enc Tryd.prog w base spare held _ (Kd.int .u32) (fun (y : Int) D => (Lit.int .u32 y).wf = true ∧ D = .lit (.int .u32 y)) from (opens_int Tryd.underlying22)) _ _ _ ((hf 0 _ rfl).trans rfl)
    obtain ⟨x1, k1, o1⟩ := (show Opens enc Tryd.prog w base spare held _ (Kd.int .i64) (fun (y : Int) D => (Lit.int .i64 y).wf = true ∧ D = .lit (.int .i64 y)) from (opens_int Tryd.underlying3)) _ _ _ ((hf 1 _ rfl).trans rfl)
    refine ⟨⟨x0, x1⟩, ?_, y0.1, y1.1, rfl, o0, o1⟩
    exact (pair_at (by kernel_rfl) k0 (last_at hl (by kernel_rfl) k1))
theorem reads (os : Os) {H : Type} (enc : TypeId × Value → H) : ∃ places, DataW.whole enc Tryd.prog ((laidWorld os).forCall (fun _ _ => 0) ⟨#[], #[.int .u8 0, .int .u8 0, .agg #[.int .u32 0, .int .i64 0], .agg #[.int .u32 0, .int .i64 0]], []⟩).memory Tryd.f5.params.toList Rows.prefixCoversSpec.vars false (#[.int .u8 0, .int .u8 0, .agg #[.int .u32 0, .int .i64 0], .agg #[.int .u32 0, .int .i64 0]] : Array Value).toList 8 = some ([.lit (.int .u8 0), .lit (.int .u8 0), .agg [.lit (.int .u32 0), .lit (.int .i64 0)], .agg [.lit (.int .u32 0), .lit (.int .i64 0)]], [], places) := ⟨[], by kernel_rfl⟩
set_option maxRecDepth 100000 in
theorem lifted (os : Os) (started : os.Started) (H : Type) (enc : TypeId × Value → H) (F : Stop.Interp) :
    ReturnsInHanded {} Tryd.checked os 5 .any ((OpenSpec.ofChange Rows.prefixCoversSpec).preRow enc Tryd.prog Tryd.f5 Rows.prefixCoversRow.domain false Rows.prefixCoversRow.laid) (((OpenSpec.ofChange Rows.prefixCoversSpec).at F).post enc Tryd.prog Tryd.f5 false true false false) := by
  obtain ⟨places, hx⟩ := reads os enc
  refine lifted_of_walk_row (C := Tryd.checked) (s := Rows.prefixCoversSpec) (s' := (OpenSpec.ofChange Rows.prefixCoversSpec)) (tb := 4) own started (by kernel_rfl) Tryd.func5 laidOut rfl (fun _ _ _ _ h => h) rfl ?_ rfl Tryd.underlying4 ?_
    (witness_row_atRef (enc := enc) (C := Tryd.checked) false (laidWorld os) #[.int .u8 0, .int .u8 0, .agg #[.int .u32 0, .int .i64 0], .agg #[.int .u32 0, .int .i64 0]] rfl (by kernel_rfl) (by kernel_rfl) (by kernel_rfl)
      (OpenSpec.preRow_of_cond 8 hx (by kernel_rfl) (fun k hk => by cases hk) (by kernel_rfl) (laid_met os _))) ?_
  · intro ds h
    match ds, h with
    | [d0, d1, d2, d3], _ => rfl
  · intro t ht
    have : t = 5 ∨ t = 24 := by simpa [Tryd.f5] using ht
    rcases this with rfl | rfl
    · exact ⟨by kernel_rfl, of_decide_eq_true (by kernel_rfl)⟩
    · exact ⟨by kernel_rfl, of_decide_eq_true (by kernel_rfl)⟩
  · intro W base args ds p hval0 hA0 hcond hL hsh
    have hInv := inv_of_row (hL) hsh
    have hval : ∀ (j : Nat) t v, Tryd.f5.params[j]? = some t → args[j]? = some v → Value.okWide Tryd.prog W .any base t v := hval0
    have hA : DataW.TrodAll enc Tryd.prog W 0 (fun _ => true) true Tryd.f5.params.toList args.toList ds p := hA0
    rw [Tryd.params5] at hA hval
    obtain ⟨v0, vs0, d0, ds0, p0, q0, hargs, rfl, rfl, h0, r0⟩ := trodAll_cons hA
    obtain ⟨v1, vs1, d1, ds1, p1, q1, rfl, rfl, rfl, h1, r1⟩ := trodAll_cons r0
    obtain ⟨v2, vs2, d2, ds2, p2, q2, rfl, rfl, rfl, h2, r2⟩ := trodAll_cons r1
    obtain ⟨v3, vs3, d3, ds3, p3, q3, rfl, rfl, rfl, h3, r3⟩ := trodAll_cons r2
    obtain ⟨rfl, rfl, rfl⟩ := trodAll_nil r3
    obtain rfl : args = #[v0, v1, v2, v3] := by cases args; simp_all
    clear hA0 hval0
    obtain ⟨x, rfl, rfl, rfl, hw0⟩ := open_int Tryd.underlying5 (hval 0 _ v0 rfl rfl) h0
    obtain ⟨y, rfl, rfl, rfl, hw1⟩ := open_int Tryd.underlying5 (hval 1 _ v1 rfl rfl) h1
    obtain ⟨x0, cs2, rfl, hK2, hok2⟩ := open_agg Tryd.underlying24 (hval 2 _ v2 rfl rfl) (opens_S24 (enc := enc) (w := W)) h2
    have hcs2 := Go.Proofs.YtkbjjamaneiijaaDoor.prefixCovers.k24_open hK2
    obtain rfl := agg_eq hcs2
    obtain ⟨x1, cs3, rfl, hK3, hok3⟩ := open_agg Tryd.underlying24 (hval 3 _ v3 rfl rfl) (opens_S24 (enc := enc) (w := W)) h3
    have hcs3 := Go.Proofs.YtkbjjamaneiijaaDoor.prefixCovers.k24_open hK3
    obtain rfl := agg_eq hcs3
    have hx := wf_u8' hw0
    have hy := wf_u8' hw1
    have hg : 0 ≤ x0.f0 ∧ x0.f0 < 4294967296 := by
      obtain ⟨D0, D1, _, o0, _⟩ := hok2
      have := wf_u32' o0.1
      omega
    have hh : 0 ≤ x1.f0 ∧ x1.f0 < 4294967296 := by
      obtain ⟨D0, D1, _, o0, _⟩ := hok3
      have := wf_u32' o0.1
      omega
    exact (maquettelaw05_PrefixCovers.calls 80 x y _ _ _ _ true W (PreL.lcovers x y _ _ _ _ hx.1 hx.2 hy.1 hy.2 hg.1 hg.2 hh.1 hh.2) hInv).mono fun e W' ⟨he, hb⟩ => ⟨he, hb⟩
theorem over : Rows.prefixCoversRow.holds Tryd.pinned (OpenSpec.ofChange Rows.prefixCoversSpec) :=
  OpenClaim.holds_of_cond 5 Tryd.f5 rfl rfl rfl rfl rfl rfl rfl ⟨rfl, rfl, rfl, rfl, rfl⟩ rfl rfl rfl rfl rfl (by kernel_rfl) Tryd.func5 (by kernel_rfl)
    (of_decide_eq_true (by kernel_rfl)) (by unfold Func.isWrapper; first | (rw [if_pos (by decide +kernel)]; kernel_rfl) | (rw [if_neg (by decide +kernel)]; exact ⟨rfl, rfl⟩))
    (fun os started H enc _ F => by rw [OpenClaim.pre_eq_preRow]; exact lifted os started H enc F)
theorem said : Rows.PrefixCoversSaid := over
theorem plain (f : FuncId) (fn : Func) (hf : Tryd.pinned.checked.prog.funcNamed "maquette/maquettelaw05.PrefixCovers" = some f) (hfn : Tryd.pinned.checked.prog.funcs[f]? = some fn) :
    true = Tryd.pinned.checked.prog.looks [] ∧ ∀ (j : Nat) t, fn.params[j]? = some t → Tryd.pinned.checked.prog.wantsStandIn t = false := by
  obtain rfl : f = 5 := Option.some.inj ((show Tryd.prog.funcNamed "maquette/maquettelaw05.PrefixCovers" = some 5 by kernel_rfl).symm.trans hf) |>.symm
  obtain rfl : fn = Tryd.f5 := (Option.some.inj (Tryd.func5.symm.trans hfn)).symm
  refine ⟨by kernel_rfl, fun j t ht => ?_⟩
  rw [Tryd.params5] at ht
  have ht : t = 5 ∨ t = 24 := by have := Array.mem_of_getElem? ht; simpa using this
  rcases ht with rfl | rfl
  · exact (show Tryd.prog.wantsStandIn 5 = false by kernel_rfl)
  · exact (show Tryd.prog.wantsStandIn 24 = false by kernel_rfl)
theorem proved : Rows.PrefixCoversCardSaid :=
  Claim7.holds_tied_plain_at .later [] _ _ _ _ said (fun _ h => by cases h) (by kernel_rfl) (fun _ h => by cases h) prefixCovers_row_tie rfl ⟨rfl, rfl⟩ (by kernel_rfl) rfl plain (by kernel_rfl)
#print axioms proved
end Go.Proofs.YtkbjjamaneiijaaDoor.prefixCovers
