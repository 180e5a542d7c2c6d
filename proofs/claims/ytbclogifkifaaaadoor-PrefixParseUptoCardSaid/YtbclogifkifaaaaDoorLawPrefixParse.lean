/- The law PrefixParse of layer 5 answers true for every text and all numbers of 8 bits, and leaves them as they were; condition: what it reads is of bulk at most 1048576; the tables that the row lists are tied to_ the program's text. -/
import Derived.Test.YtbclogifkifaaaaDoorRows
import Derived.Test.YtbclogifkifaaaaDoorCards
import Derived.Test.YtbclogifkifaaaaDoorTie
import Derived.Test.YtbclogifkifaaaaDoorPreQ
import Derived.Test.YtbclogifkifaaaaDoorDoor
namespace Go.Proofs.YtbclogifkifaaaaDoor.prefixParse
open Go.ChangeShapes Go.WideShapes Go.ChangeAt Go.RowKit Go.Proofs.YtbclogifkifaaaaDoor.Open Go.Proofs.YtbclogifkifaaaaDoor.OpenK Go.Proofs.YtbclogifkifaaaaDoor.Door Go.Proofs.YtbclogifkifaaaaDoor.PPre
open Go.Proofs.YtbclogifkifaaaaDoorW.PrintWords (Kd)
set_option linter.unusedVariables false
theorem reads (os : Os) {H : Type} (enc : TypeId × Value → H) : ∃ places, DataW.whole enc Tryd.prog ((laidWorld os).forCall (fun _ _ => 0) ⟨#[], #[.string ByteArray.empty, .int .u8 0, .int .u8 0, .int .u8 0], []⟩).memory Tryd.f3.params.toList Rows.prefixParseSpec.vars false (#[.string ByteArray.empty, .int .u8 0, .int .u8 0, .int .u8 0] : Array Value).toList 8 = some ([.lit (.string []), .lit (.int .u8 0), .lit (.int .u8 0), .lit (.int .u8 0)], [], places) := ⟨[], by kernel_rfl⟩
set_option maxRecDepth 100000 in
theorem lifted (os : Os) (started : os.Started) (H : Type) (enc : TypeId × Value → H) (F : Stop.Interp) :
    ReturnsInHanded {} Tryd.checked os 3 .any ((Rows.OpenSpec.upto Rows.prefixParseSpec).preRow enc Tryd.prog Tryd.f3 Rows.prefixParseUptoRow.domain false Rows.prefixParseUptoRow.laid) (((Rows.OpenSpec.upto Rows.prefixParseSpec).at F).post enc Tryd.prog Tryd.f3 false true false false) := by
  obtain ⟨places, hx⟩ := reads os enc
  refine lifted_of_walk_row (C := Tryd.checked) (s := Rows.prefixParseSpec) (s' := (Rows.OpenSpec.upto Rows.prefixParseSpec)) (tb := 4) own started (by kernel_rfl) Tryd.func3 laidOut rfl (fun _ _ _ _ h => h) rfl ?_ rfl Tryd.underlying4 ?_
    (witness_row_atRef (enc := enc) (C := Tryd.checked) false (laidWorld os) #[.string ByteArray.empty, .int .u8 0, .int .u8 0, .int .u8 0] rfl (by kernel_rfl) (by kernel_rfl) (by kernel_rfl)
      (OpenSpec.preRow_of_cond 8 hx (by kernel_rfl) (fun k hk => by cases hk; kernel_rfl) (by kernel_rfl) (laid_met os _))) ?_
  · intro ds h
    match ds, h with
    | [d0, d1, d2, d3], _ => rfl
  · intro t ht
    have : t = 9 ∨ t = 5 := by simpa [Tryd.f3] using ht
    rcases this with rfl | rfl
    · exact ⟨by kernel_rfl, of_decide_eq_true (by kernel_rfl)⟩
    · exact ⟨by kernel_rfl, of_decide_eq_true (by kernel_rfl)⟩
  · intro W base args ds p hval0 hA0 hcond hL hsh
    have hInv := inv_of_row (hL) hsh
    have hval : ∀ (j : Nat) t v, Tryd.f3.params[j]? = some t → args[j]? = some v → Value.okWide Tryd.prog W .any base t v := hval0
    have hA : DataW.TrodAll enc Tryd.prog W 0 (fun _ => true) true Tryd.f3.params.toList args.toList ds p := hA0
    rw [Tryd.params3] at hA hval
    obtain ⟨v0, vs0, d0, ds0, p0, q0, hargs, rfl, rfl, h0, r0⟩ := trodAll_cons hA
    obtain ⟨v1, vs1, d1, ds1, p1, q1, rfl, rfl, rfl, h1, r1⟩ := trodAll_cons r0
    obtain ⟨v2, vs2, d2, ds2, p2, q2, rfl, rfl, rfl, h2, r2⟩ := trodAll_cons r1
    obtain ⟨v3, vs3, d3, ds3, p3, q3, rfl, rfl, rfl, h3, r3⟩ := trodAll_cons r2
    obtain ⟨rfl, rfl, rfl⟩ := trodAll_nil r3
    obtain rfl : args = #[v0, v1, v2, v3] := by cases args; simp_all
    clear hA0 hval0
    obtain ⟨s, rfl, rfl, rfl, hw0⟩ := Go.ChangeMaps.open_string Tryd.underlying9 (hval 0 _ v0 rfl rfl) h0
    obtain ⟨n, rfl, rfl, rfl, hw1⟩ := open_int Tryd.underlying5 (hval 1 _ v1 rfl rfl) h1
    obtain ⟨a, rfl, rfl, rfl, hw2⟩ := open_int Tryd.underlying5 (hval 2 _ v2 rfl rfl) h2
    obtain ⟨c, rfl, rfl, rfl, hw3⟩ := open_int Tryd.underlying5 (hval 3 _ v3 rfl rfl) h3
    have hbulk := bound (hcond _ rfl)
    simp only [Rows.uptoBulkAll] at hbulk
    simp only [Rows.uptoBulk] at hbulk
    have es : s.data.toList.length = s.size := Array.length_toList
    have hk := PreQ.lparse s (by omega) n a c (wf_u8' hw1) (wf_u8' hw2) (wf_u8' hw3)
    exact (maquettelaw05_PrefixParse.calls 60 s n a c true W hk hInv).mono fun e W' ⟨he, hb⟩ => ⟨he, hb⟩
theorem over : Rows.prefixParseUptoRow.holds Tryd.pinned (Rows.OpenSpec.upto Rows.prefixParseSpec) :=
  OpenClaim.holds_of_cond 3 Tryd.f3 rfl rfl rfl rfl rfl rfl rfl ⟨rfl, rfl, rfl, rfl, rfl⟩ rfl rfl rfl rfl rfl (by kernel_rfl) Tryd.func3 (by kernel_rfl)
    (of_decide_eq_true (by kernel_rfl)) (by unfold Func.isWrapper; first | (rw [if_pos (by decide +kernel)]; kernel_rfl) | (rw [if_neg (by decide +kernel)]; exact ⟨rfl, rfl⟩))
    (fun os started H enc _ F => by rw [OpenClaim.pre_eq_preRow]; exact lifted os started H enc F)
theorem said : Rows.PrefixParseUptoSaid := over
theorem plain (f : FuncId) (fn : Func) (hf : Tryd.pinned.checked.prog.funcNamed "maquette/maquettelaw05.PrefixParse" = some f) (hfn : Tryd.pinned.checked.prog.funcs[f]? = some fn) :
    true = Tryd.pinned.checked.prog.looks [] ∧ ∀ (j : Nat) t, fn.params[j]? = some t → Tryd.pinned.checked.prog.wantsStandIn t = false := by
  obtain rfl : f = 3 := Option.some.inj ((show Tryd.prog.funcNamed "maquette/maquettelaw05.PrefixParse" = some 3 by kernel_rfl).symm.trans hf) |>.symm
  obtain rfl : fn = Tryd.f3 := (Option.some.inj (Tryd.func3.symm.trans hfn)).symm
  refine ⟨by kernel_rfl, fun j t ht => ?_⟩
  rw [Tryd.params3] at ht
  have ht : t = 9 ∨ t = 5 := by have := Array.mem_of_getElem? ht; simpa using this
  rcases ht with rfl | rfl
  · exact (show Tryd.prog.wantsStandIn 9 = false by kernel_rfl)
  · exact (show Tryd.prog.wantsStandIn 5 = false by kernel_rfl)
theorem proved : Rows.PrefixParseUptoCardSaid :=
  Claim7.holds_tied_plain_at .later [] _ _ _ _ said (fun _ h => by cases h) (by kernel_rfl) (fun _ h => by cases h) prefixParseUpto_row_tie rfl ⟨rfl, rfl⟩ (by kernel_rfl) rfl plain (by kernel_rfl)
#print axioms proved
end Go.Proofs.YtbclogifkifaaaaDoor.prefixParse
