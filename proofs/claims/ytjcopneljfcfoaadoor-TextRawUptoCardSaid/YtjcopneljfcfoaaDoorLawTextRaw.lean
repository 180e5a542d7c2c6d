/- The law TextRaw of layer 7 answers true for every configuration of little bulk, and leaves it as it was. No other condition; the tables that the row lists are tied to the program's text. -/
import Derived.Test.YtjcopneljfcfoaaDoorRows
import Derived.Test.YtjcopneljfcfoaaDoorCards
import Derived.Test.YtjcopneljfcfoaaDoorTie
import Derived.Test.YtjcopneljfcfoaaDoorTxtR
import Derived.Test.YtjcopneljfcfoaaDoorDoor
namespace Go.Proofs.YtjcopneljfcfoaaDoor.textRaw
open Go.ChangeShapes Go.WideShapes Go.ChangeAt Go.RowKit Go.Proofs.YtjcopneljfcfoaaDoor.Open Go.Proofs.YtjcopneljfcfoaaDoor.OpenK Go.Proofs.YtjcopneljfcfoaaDoor.Door Go.Proofs.YtjcopneljfcfoaaDoor.PRaw
open Go.Proofs.YtjcopneljfcfoaaDoorW.PrintWords (Kd)
set_option linter.unusedVariables false
def ok_S39 {H : Type} (y : S39) (D : DataW H) : Prop := ∃ D0 D1, D = .agg [D0, D1] ∧ (fun (y : Int) D => (Lit.int .u32 y).wf = true ∧ D = .lit (.int .u32 y)) y.f0 D0  ∧ (fun (y : Int) D => (Lit.int .i64 y).wf = true ∧ D = .lit (.int .i64 y)) y.f1 D1
theorem opens_S39 {H : Type} {enc : TypeId × Value → H} {w : World} {base : Nat} {spare : Nat → Bool} {held : Bool} : Opens enc Tryd.prog w base spare held 39 k39 ok_S39 := by
  intro n cs x h
  obtain ⟨xs, n_, _, rfl, hl, hlen, hf⟩ := DataW.trod_struct Tryd.underlying39 h
  match xs, hlen with
  | [y0, y1], _ =>
    obtain ⟨x0, k0, o0⟩ := (show Opens enc Tryd.prog w base spare held _ (Kd.int .u32) (fun (y : Int) D => (Lit.int .u32 y).wf = true ∧ D = .lit (.int .u32 y)) from (opens_int Tryd.underlying37)) _ _ _ ((hf 0 _ rfl).trans rfl)
    obtain ⟨x1, k1, o1⟩ := (show Opens enc Tryd.prog w base spare held _ (Kd.int .i64) (fun (y : Int) D => (Lit.int .i64 y).wf = true ∧ D = .lit (.int .i64 y)) from (opens_int Tryd.underlying3)) _ _ _ ((hf 1 _ rfl).trans rfl)
    refine ⟨⟨x0, x1⟩, ?_, y0.1, y1.1, rfl, o0, o1⟩
    exact (pair_at (by kernel_rfl) k0 (last_at hl (by kernel_rfl) k1))
def ok_S41 {H : Type} (y : S41) (D : DataW H) : Prop := ∃ D0 D1 D2 D3 D4 D5 D6 D7 D8, D = .agg [D0, D1, D2, D3, D4, D5, D6, D7, D8] ∧ (fun (y : Bool) D => D = .lit (.bool y)) y.f0 D0  ∧ ok_S39 y.f1 D1  ∧ (fun (y : Int) D => (Lit.int .u8 y).wf = true ∧ D = .lit (.int .u8 y)) y.f2 D2  ∧ (fun (y : Int) D => (Lit.int .u8 y).wf = true ∧ D = .lit (.int .u8 y)) y.f3 D3  ∧ (fun (y : Bool) D => D = .lit (.bool y)) y.f4 D4  ∧ (fun (y : Int) D => (Lit.int .u8 y).wf = true ∧ D = .lit (.int .u8 y)) y.f5 D5  ∧ (fun (y : Int) D => (Lit.int .u8 y).wf = true ∧ D = .lit (.int .u8 y)) y.f6 D6  ∧ (fun (y : Int) D => (Lit.int .i64 y).wf = true ∧ D = .lit (.int .i64 y)) y.f7 D7  ∧ (fun (y : Int) D => (Lit.int .i64 y).wf = true ∧ D = .lit (.int .i64 y)) y.f8 D8
theorem opens_S41 {H : Type} {enc : TypeId × Value → H} {w : World} {base : Nat} {spare : Nat → Bool} {held : Bool} : Opens enc Tryd.prog w base spare held 41 k41 ok_S41 := by
  intro n cs x h
  obtain ⟨xs, n_, _, rfl, hl, hlen, hf⟩ := DataW.trod_struct Tryd.underlying41 h
  match xs, hlen with
  | [y0, y1, y2, y3, y4, y5, y6, y7, y8], _ =>
    obtain ⟨x0, k0, o0⟩ := (show Opens enc Tryd.prog w base spare held _ Kd.bool (fun (y : Bool) D => D = .lit (.bool y)) from (opens_bool Tryd.underlying4)) _ _ _ ((hf 0 _ rfl).trans rfl)
    obtain ⟨x1, k1, o1⟩ := (show Opens enc Tryd.prog w base spare held _ k39 ok_S39 from opens_S39) _ _ _ ((hf 1 _ rfl).trans rfl)
    obtain ⟨x2, k2, o2⟩ := (show Opens enc Tryd.prog w base spare held _ (Kd.int .u8) (fun (y : Int) D => (Lit.int .u8 y).wf = true ∧ D = .lit (.int .u8 y)) from (opens_int Tryd.underlying5)) _ _ _ ((hf 2 _ rfl).trans rfl)
    obtain ⟨x3, k3, o3⟩ := (show Opens enc Tryd.prog w base spare held _ (Kd.int .u8) (fun (y : Int) D => (Lit.int .u8 y).wf = true ∧ D = .lit (.int .u8 y)) from (opens_int Tryd.underlying5)) _ _ _ ((hf 3 _ rfl).trans rfl)
    obtain ⟨x4, k4, o4⟩ := (show Opens enc Tryd.prog w base spare held _ Kd.bool (fun (y : Bool) D => D = .lit (.bool y)) from (opens_bool Tryd.underlying4)) _ _ _ ((hf 4 _ rfl).trans rfl)
    obtain ⟨x5, k5, o5⟩ := (show Opens enc Tryd.prog w base spare held _ (Kd.int .u8) (fun (y : Int) D => (Lit.int .u8 y).wf = true ∧ D = .lit (.int .u8 y)) from (opens_int Tryd.underlying5)) _ _ _ ((hf 5 _ rfl).trans rfl)
    obtain ⟨x6, k6, o6⟩ := (show Opens enc Tryd.prog w base spare held _ (Kd.int .u8) (fun (y : Int) D => (Lit.int .u8 y).wf = true ∧ D = .lit (.int .u8 y)) from (opens_int Tryd.underlying5)) _ _ _ ((hf 6 _ rfl).trans rfl)
    obtain ⟨x7, k7, o7⟩ := (show Opens enc Tryd.prog w base spare held _ (Kd.int .i64) (fun (y : Int) D => (Lit.int .i64 y).wf = true ∧ D = .lit (.int .i64 y)) from (opens_int Tryd.underlying3)) _ _ _ ((hf 7 _ rfl).trans rfl)
    obtain ⟨x8, k8, o8⟩ := (show Opens enc Tryd.prog w base spare held _ (Kd.int .i64) (fun (y : Int) D => (Lit.int .i64 y).wf = true ∧ D = .lit (.int .i64 y)) from (opens_int Tryd.underlying3)) _ _ _ ((hf 8 _ rfl).trans rfl)
    refine ⟨⟨x0, x1, x2, x3, x4, x5, x6, x7, x8⟩, ?_, y0.1, y1.1, y2.1, y3.1, y4.1, y5.1, y6.1, y7.1, y8.1, rfl, o0, o1, o2, o3, o4, o5, o6, o7, o8⟩
    exact (pair_at (by kernel_rfl) k0 (pair_at (by kernel_rfl) k1 (pair_at (by kernel_rfl) k2 (pair_at (by kernel_rfl) k3 (pair_at (by kernel_rfl) k4 (pair_at (by kernel_rfl) k5 (pair_at (by kernel_rfl) k6 (pair_at (by kernel_rfl) k7 (last_at hl (by kernel_rfl) k8)))))))))
def ok_S36 {H : Type} (y : S36) (D : DataW H) : Prop := ∃ D0 D1 D2, D = .agg [D0, D1, D2] ∧ (fun (y : ByteArray) D => y.size ≤ maxLen ∧ D = .lit (.string y.data.toList)) y.f0 D0  ∧ (OkRow ok_S41) y.f1 D1  ∧ (fun (y : Int) D => (Lit.int .i64 y).wf = true ∧ D = .lit (.int .i64 y)) y.f2 D2
theorem opens_S36 {H : Type} {enc : TypeId × Value → H} {w : World} {base : Nat} {spare : Nat → Bool} {held : Bool} : Opens enc Tryd.prog w base spare held 36 k36 ok_S36 := by
  intro n cs x h
  obtain ⟨xs, n_, _, rfl, hl, hlen, hf⟩ := DataW.trod_struct Tryd.underlying36 h
  match xs, hlen with
  | [y0, y1, y2], _ =>
    obtain ⟨x0, k0, o0⟩ := (show Opens enc Tryd.prog w base spare held _ Kd.string (fun (y : ByteArray) D => y.size ≤ maxLen ∧ D = .lit (.string y.data.toList)) from (opens_str Tryd.underlying9)) _ _ _ ((hf 0 _ rfl).trans rfl)
    obtain ⟨x1, k1, o1⟩ := (show Opens enc Tryd.prog w base spare held _ (Kd.slice 41 k41) (OkRow ok_S41) from (opens_slice Tryd.underlying34 (by kernel_rfl) opens_S41)) _ _ _ ((hf 1 _ rfl).trans rfl)
    obtain ⟨x2, k2, o2⟩ := (show Opens enc Tryd.prog w base spare held _ (Kd.int .i64) (fun (y : Int) D => (Lit.int .i64 y).wf = true ∧ D = .lit (.int .i64 y)) from (opens_int Tryd.underlying3)) _ _ _ ((hf 2 _ rfl).trans rfl)
    refine ⟨⟨x0, x1, x2⟩, ?_, y0.1, y1.1, y2.1, rfl, o0, o1, o2⟩
    exact (pair_at (by kernel_rfl) k0 (pair_at (by kernel_rfl) k1 (last_at hl (by kernel_rfl) k2)))
def ok_S48 {H : Type} (y : S48) (D : DataW H) : Prop := ∃ D0 D1 D2 D3 D4, D = .agg [D0, D1, D2, D3, D4] ∧ (fun (y : ByteArray) D => y.size ≤ maxLen ∧ D = .lit (.string y.data.toList)) y.f0 D0  ∧ (fun (y : Int) D => (Lit.int .i64 y).wf = true ∧ D = .lit (.int .i64 y)) y.f1 D1  ∧ (fun (y : ByteArray) D => y.size ≤ maxLen ∧ D = .lit (.string y.data.toList)) y.f2 D2  ∧ (fun (y : ByteArray) D => y.size ≤ maxLen ∧ D = .lit (.string y.data.toList)) y.f3 D3  ∧ (fun (y : Int) D => (Lit.int .i64 y).wf = true ∧ D = .lit (.int .i64 y)) y.f4 D4
theorem opens_S48 {H : Type} {enc : TypeId × Value → H} {w : World} {base : Nat} {spare : Nat → Bool} {held : Bool} : Opens enc Tryd.prog w base spare held 48 k48 ok_S48 := by
  intro n cs x h
  obtain ⟨xs, n_, _, rfl, hl, hlen, hf⟩ := DataW.trod_struct Tryd.underlying48 h
  match xs, hlen with
  | [y0, y1, y2, y3, y4], _ =>
    obtain ⟨x0, k0, o0⟩ := (show Opens enc Tryd.prog w base spare held _ Kd.string (fun (y : ByteArray) D => y.size ≤ maxLen ∧ D = .lit (.string y.data.toList)) from (opens_str Tryd.underlying9)) _ _ _ ((hf 0 _ rfl).trans rfl)
    obtain ⟨x1, k1, o1⟩ := (show Opens enc Tryd.prog w base spare held _ (Kd.int .i64) (fun (y : Int) D => (Lit.int .i64 y).wf = true ∧ D = .lit (.int .i64 y)) from (opens_int Tryd.underlying3)) _ _ _ ((hf 1 _ rfl).trans rfl)
    obtain ⟨x2, k2, o2⟩ := (show Opens enc Tryd.prog w base spare held _ Kd.string (fun (y : ByteArray) D => y.size ≤ maxLen ∧ D = .lit (.string y.data.toList)) from (opens_str Tryd.underlying9)) _ _ _ ((hf 2 _ rfl).trans rfl)
    obtain ⟨x3, k3, o3⟩ := (show Opens enc Tryd.prog w base spare held _ Kd.string (fun (y : ByteArray) D => y.size ≤ maxLen ∧ D = .lit (.string y.data.toList)) from (opens_str Tryd.underlying9)) _ _ _ ((hf 3 _ rfl).trans rfl)
    obtain ⟨x4, k4, o4⟩ := (show Opens enc Tryd.prog w base spare held _ (Kd.int .i64) (fun (y : Int) D => (Lit.int .i64 y).wf = true ∧ D = .lit (.int .i64 y)) from (opens_int Tryd.underlying3)) _ _ _ ((hf 4 _ rfl).trans rfl)
    refine ⟨⟨x0, x1, x2, x3, x4⟩, ?_, y0.1, y1.1, y2.1, y3.1, y4.1, rfl, o0, o1, o2, o3, o4⟩
    exact (pair_at (by kernel_rfl) k0 (pair_at (by kernel_rfl) k1 (pair_at (by kernel_rfl) k2 (pair_at (by kernel_rfl) k3 (last_at hl (by kernel_rfl) k4)))))
def ok_S60 {H : Type} (y : S60) (D : DataW H) : Prop := ∃ D0 D1 D2, D = .agg [D0, D1, D2] ∧ ok_S39 y.f0 D0  ∧ (fun (y : ByteArray) D => y.size ≤ maxLen ∧ D = .lit (.string y.data.toList)) y.f1 D1  ∧ (fun (y : Int) D => (Lit.int .i64 y).wf = true ∧ D = .lit (.int .i64 y)) y.f2 D2
theorem opens_S60 {H : Type} {enc : TypeId × Value → H} {w : World} {base : Nat} {spare : Nat → Bool} {held : Bool} : Opens enc Tryd.prog w base spare held 60 k60 ok_S60 := by
  intro n cs x h
  obtain ⟨xs, n_, _, rfl, hl, hlen, hf⟩ := DataW.trod_struct Tryd.underlying60 h
  match xs, hlen with
  | [y0, y1, y2], _ =>
    obtain ⟨x0, k0, o0⟩ := (show Opens enc Tryd.prog w base spare held _ k39 ok_S39 from opens_S39) _ _ _ ((hf 0 _ rfl).trans rfl)
    obtain ⟨x1, k1, o1⟩ := (show Opens enc Tryd.prog w base spare held _ Kd.string (fun (y : ByteArray) D => y.size ≤ maxLen ∧ D = .lit (.string y.data.toList)) from (opens_str Tryd.underlying9)) _ _ _ ((hf 1 _ rfl).trans rfl)
    obtain ⟨x2, k2, o2⟩ := (show Opens enc Tryd.prog w base spare held _ (Kd.int .i64) (fun (y : Int) D => (Lit.int .i64 y).wf = true ∧ D = .lit (.int .i64 y)) from (opens_int Tryd.underlying3)) _ _ _ ((hf 2 _ rfl).trans rfl)
    refine ⟨⟨x0, x1, x2⟩, ?_, y0.1, y1.1, y2.1, rfl, o0, o1, o2⟩
    exact (pair_at (by kernel_rfl) k0 (pair_at (by kernel_rfl) k1 (last_at hl (by kernel_rfl) k2)))
def ok_S46 {H : Type} (y : S46) (D : DataW H) : Prop := ∃ D0 D1 D2 D3 D4, D = .agg [D0, D1, D2, D3, D4] ∧ (fun (y : ByteArray) D => y.size ≤ maxLen ∧ D = .lit (.string y.data.toList)) y.f0 D0  ∧ (OkRow ok_S39) y.f1 D1  ∧ (OkRow ok_S48) y.f2 D2  ∧ (OkRow ok_S60) y.f3 D3  ∧ (fun (y : Int) D => (Lit.int .i64 y).wf = true ∧ D = .lit (.int .i64 y)) y.f4 D4
theorem opens_S46 {H : Type} {enc : TypeId × Value → H} {w : World} {base : Nat} {spare : Nat → Bool} {held : Bool} : Opens enc Tryd.prog w base spare held 46 k46 ok_S46 := by
  intro n cs x h
  obtain ⟨xs, n_, _, rfl, hl, hlen, hf⟩ := DataW.trod_struct Tryd.underlying46 h
  match xs, hlen with
  | [y0, y1, y2, y3, y4], _ =>
    obtain ⟨x0, k0, o0⟩ := (show Opens enc Tryd.prog w base spare held _ Kd.string (fun (y : ByteArray) D => y.size ≤ maxLen ∧ D = .lit (.string y.data.toList)) from (opens_str Tryd.underlying9)) _ _ _ ((hf 0 _ rfl).trans rfl)
    obtain ⟨x1, k1, o1⟩ := (show Opens enc Tryd.prog w base spare held _ (Kd.slice 39 k39) (OkRow ok_S39) from (opens_slice Tryd.underlying42 (by kernel_rfl) opens_S39)) _ _ _ ((hf 1 _ rfl).trans rfl)
    obtain ⟨x2, k2, o2⟩ := (show Opens enc Tryd.prog w base spare held _ (Kd.slice 48 k48) (OkRow ok_S48) from (opens_slice Tryd.underlying43 (by kernel_rfl) opens_S48)) _ _ _ ((hf 2 _ rfl).trans rfl)
    obtain ⟨x3, k3, o3⟩ := (show Opens enc Tryd.prog w base spare held _ (Kd.slice 60 k60) (OkRow ok_S60) from (opens_slice Tryd.underlying44 (by kernel_rfl) opens_S60)) _ _ _ ((hf 3 _ rfl).trans rfl)
    obtain ⟨x4, k4, o4⟩ := (show Opens enc Tryd.prog w base spare held _ (Kd.int .i64) (fun (y : Int) D => (Lit.int .i64 y).wf = true ∧ D = .lit (.int .i64 y)) from (opens_int Tryd.underlying3)) _ _ _ ((hf 4 _ rfl).trans rfl)
    refine ⟨⟨x0, x1, x2, x3, x4⟩, ?_, y0.1, y1.1, y2.1, y3.1, y4.1, rfl, o0, o1, o2, o3, o4⟩
    exact (pair_at (by kernel_rfl) k0 (pair_at (by kernel_rfl) k1 (pair_at (by kernel_rfl) k2 (pair_at (by kernel_rfl) k3 (last_at hl (by kernel_rfl) k4)))))
def ok_S30 {H : Type} (y : S30) (D : DataW H) : Prop := ∃ D0 D1, D = .agg [D0, D1] ∧ (OkRow ok_S36) y.f0 D0  ∧ (OkRow ok_S46) y.f1 D1
theorem opens_S30 {H : Type} {enc : TypeId × Value → H} {w : World} {base : Nat} {spare : Nat → Bool} {held : Bool} : Opens enc Tryd.prog w base spare held 30 k30 ok_S30 := by
  intro n cs x h
  obtain ⟨xs, n_, _, rfl, hl, hlen, hf⟩ := DataW.trod_struct Tryd.underlying30 h
  match xs, hlen with
  | [y0, y1], _ =>
    obtain ⟨x0, k0, o0⟩ := (show Opens enc Tryd.prog w base spare held _ (Kd.slice 36 k36) (OkRow ok_S36) from (opens_slice Tryd.underlying27 (by kernel_rfl) opens_S36)) _ _ _ ((hf 0 _ rfl).trans rfl)
    obtain ⟨x1, k1, o1⟩ := (show Opens enc Tryd.prog w base spare held _ (Kd.slice 46 k46) (OkRow ok_S46) from (opens_slice Tryd.underlying28 (by kernel_rfl) opens_S46)) _ _ _ ((hf 1 _ rfl).trans rfl)
    refine ⟨⟨x0, x1⟩, ?_, y0.1, y1.1, rfl, o0, o1⟩
    exact (pair_at (by kernel_rfl) k0 (last_at hl (by kernel_rfl) k1))
theorem reads (os : Os) {H : Type} (enc : TypeId × Value → H) : ∃ places, DataW.whole enc Tryd.prog ((laidWorld os).forCall (fun _ _ => 0) ⟨#[], #[.agg #[.slice none 0 0, .slice none 0 0]], []⟩).memory Tryd.f4.params.toList Rows.textRawSpec.vars false (#[.agg #[.slice none 0 0, .slice none 0 0]] : Array Value).toList 8 = some ([.agg [.nil, .nil]], [], places) := ⟨[], by kernel_rfl⟩
set_option maxRecDepth 100000 in
theorem lifted (os : Os) (started : os.Started) (H : Type) (enc : TypeId × Value → H) (F : Stop.Interp) :
    ReturnsInHanded {} Tryd.checked os 4 .any ((Rows.OpenSpec.upto Rows.textRawSpec).preRow enc Tryd.prog Tryd.f4 Rows.textRawUptoRow.domain false Rows.textRawUptoRow.laid) (((Rows.OpenSpec.upto Rows.textRawSpec).at F).post enc Tryd.prog Tryd.f4 false true false false) := by
  obtain ⟨places, hx⟩ := reads os enc
  refine lifted_of_walk_row (C := Tryd.checked) (s := Rows.textRawSpec) (s' := (Rows.OpenSpec.upto Rows.textRawSpec)) (tb := 4) own started (by kernel_rfl) Tryd.func4 laidOut rfl (fun _ _ _ _ h => h) rfl ?_ rfl Tryd.underlying4 ?_
    (witness_row_atRef (enc := enc) (C := Tryd.checked) false (laidWorld os) #[.agg #[.slice none 0 0, .slice none 0 0]] rfl (by kernel_rfl) (by kernel_rfl) (by kernel_rfl)
      (OpenSpec.preRow_of_cond 8 hx (by kernel_rfl) (fun k hk => by cases hk; kernel_rfl) (by kernel_rfl) (laid_met os _))) ?_
  · intro ds h
    match ds, h with
    | [d0], _ => rfl
  · intro t ht
    have : t = 30 := by simpa [Tryd.f4] using ht
    subst this
    · exact ⟨by kernel_rfl, of_decide_eq_true (by kernel_rfl)⟩
  · intro W base args ds p hval0 hA0 hcond hL hsh
    have hInv := inv_of_row (hL) hsh
    have hval : ∀ (j : Nat) t v, Tryd.f4.params[j]? = some t → args[j]? = some v → Value.okWide Tryd.prog W .any base t v := hval0
    have hA : DataW.TrodAll enc Tryd.prog W 0 (fun _ => true) true Tryd.f4.params.toList args.toList ds p := hA0
    rw [Tryd.params4] at hA hval
    obtain ⟨v0, vs0, d0, ds0, p0, q0, hargs, rfl, rfl, h0, r0⟩ := trodAll_cons hA
    obtain ⟨rfl, rfl, rfl⟩ := trodAll_nil r0
    obtain rfl : args = #[v0] := by cases args; simp_all
    clear hA0 hval0
    obtain ⟨x0, cs0, rfl, hK0, hok0⟩ := open_agg Tryd.underlying30 (hval 0 _ v0 rfl rfl) (opens_S30 (enc := enc) (w := W)) h0
    obtain ⟨A0_0, c0_0, A0_1, c0_1, hcs0, hc0_0, hr0_0, hc0_1, hr0_1⟩ := k30_open hK0
    obtain rfl := agg_eq hcs0
    have hbulk := bound (hcond _ rfl)
    simp only [Rows.uptoBulkAll] at hbulk
    obtain ⟨D0, D1, rfl, o0, o1⟩ := hok0
    simp only [Rows.uptoBulk, Rows.uptoBulkAll] at hbulk
    have es : ∀ x : ByteArray, x.data.toList.length = x.size := fun x => Array.length_toList
    have hM : TxtP.wM x0.f0 ≤ 600 * Rows.uptoBulk D0 := by
      rw [TxtP.wM_eq]
      refine OkRow.sum_le o0 ?_
      rintro y e ⟨E0, E1, E2, rfl, ⟨_, rfl⟩, q1, q2⟩
      have h1 := OkRow.length_le q1
      simp only [Rows.uptoBulk, Rows.uptoBulkAll, es]
      omega
    have hR : TxtP.wR x0.f1 ≤ 600 * Rows.uptoBulk D1 := by
      rw [TxtP.wR_eq]
      refine OkRow.sum_le o1 ?_
      rintro y e ⟨E0, E1, E2, E3, E4, rfl, ⟨_, rfl⟩, q1, q2, q3, q4⟩
      have h1 := OkRow.length_le q1
      have h2 : TxtP.wL y.f2 ≤ 600 * Rows.uptoBulk E2 := by
        rw [TxtP.wL_eq]
        refine OkRow.sum_le q2 ?_
        rintro z e ⟨F0, F1, F2, F3, F4, rfl, ⟨_, rfl⟩, q1, ⟨_, rfl⟩, ⟨_, rfl⟩, q4⟩
        simp only [Rows.uptoBulk, Rows.uptoBulkAll, es]
        omega
      have h3 : TxtP.wS y.f3 ≤ 600 * Rows.uptoBulk E3 := by
        rw [TxtP.wS_eq]
        refine OkRow.sum_le q3 ?_
        rintro z e ⟨F0, F1, F2, rfl, q1, ⟨_, rfl⟩, q4⟩
        simp only [Rows.uptoBulk, Rows.uptoBulkAll, es]
        omega
      simp only [Rows.uptoBulk, Rows.uptoBulkAll, es]
      omega
    have hP : ∀ (y : S39) (e : DataW H), ok_S39 y e → TxtP.okP y := by
      rintro y e ⟨F0, F1, _, _, q1⟩
      have := wf_i64' q1.1
      exact ⟨this.1, by omega⟩
    have hm : ∀ m ∈ x0.f0, ∀ c ∈ m.f1, TxtP.kC c := by
      refine OkRow.nth o0 ?_
      rintro y e ⟨E0, E1, E2, _, _, q1, _⟩
      refine OkRow.nth q1 ?_
      rintro z e ⟨F0, F1, F2, F3, F4, F5, F6, F7, F8, _, p0, p1, p2, p3, p4, p5, p6, p7, p8⟩
      have a2 := wf_u8' p2.1
      have a3 := wf_u8' p3.1
      have a5 := wf_u8' p5.1
      have a6 := wf_u8' p6.1
      have a7 := wf_i64' p7.1
      have a8 := wf_i64' p8.1
      exact ⟨hP _ _ p1, a2, a3, a5, a6, by omega, by omega⟩
    have hr : ∀ r ∈ x0.f1, TxtP.kR r := by
      refine OkRow.nth o1 ?_
      rintro y e ⟨E0, E1, E2, E3, E4, _, _, q1, q2, q3, _⟩
      refine ⟨OkRow.nth q1 hP, OkRow.nth q2 ?_, OkRow.nth q3 ?_⟩
      · rintro z e ⟨F0, F1, F2, F3, F4, _, _, p1, _⟩
        have := wf_i64' p1.1
        omega
      · rintro z e ⟨F0, F1, F2, _, p0, _⟩
        exact hP _ _ p0
    obtain ⟨k, hk⟩ := TxtP.lraw x0.f0 x0.f1 hm hr (by omega)
    exact (maquettelaw07_TextRaw.calls k _ _ _ _ _ _ true W hr0_0 hc0_0 hr0_1 hc0_1 hk hInv).mono fun e W' ⟨he, hb⟩ => ⟨he, hb⟩
theorem over : Rows.textRawUptoRow.holds Tryd.pinned (Rows.OpenSpec.upto Rows.textRawSpec) :=
  OpenClaim.holds_of_cond 4 Tryd.f4 rfl rfl rfl rfl rfl rfl rfl ⟨rfl, rfl, rfl, rfl, rfl⟩ rfl rfl rfl rfl rfl (by kernel_rfl) Tryd.func4 (by kernel_rfl)
    (of_decide_eq_true (by kernel_rfl)) (by unfold Func.isWrapper; first | (rw [if_pos (by decide +kernel)]; kernel_rfl) | (rw [if_neg (by decide +kernel)]; exact ⟨rfl, rfl⟩))
    (fun os started H enc _ F => by rw [OpenClaim.pre_eq_preRow]; exact lifted os started H enc F)
theorem said : Rows.TextRawUptoSaid := over
theorem plain (f : FuncId) (fn : Func) (hf : Tryd.pinned.checked.prog.funcNamed "maquette/maquettelaw07.TextRaw" = some f) (hfn : Tryd.pinned.checked.prog.funcs[f]? = some fn) :
    false = Tryd.pinned.checked.prog.looks [] ∧ ∀ (j : Nat) t, fn.params[j]? = some t → Tryd.pinned.checked.prog.wantsStandIn t = false := by
  obtain rfl : f = 4 := Option.some.inj ((show Tryd.prog.funcNamed "maquette/maquettelaw07.TextRaw" = some 4 by kernel_rfl).symm.trans hf) |>.symm
  obtain rfl : fn = Tryd.f4 := (Option.some.inj (Tryd.func4.symm.trans hfn)).symm
  refine ⟨by kernel_rfl, fun j t ht => ?_⟩
  rw [Tryd.params4] at ht
  have ht : t = 30 := by have := Array.mem_of_getElem? ht; simpa using this
  subst ht
  · exact (show Tryd.prog.wantsStandIn 30 = false by kernel_rfl)
theorem proved : Rows.TextRawUptoCardSaid :=
  Claim7.holds_tied_plain_at .later [] _ _ _ _ said (fun _ h => by cases h) (by kernel_rfl) (fun _ h => by cases h) textRawUpto_row_tie rfl ⟨rfl, rfl⟩ (by kernel_rfl) rfl plain (by kernel_rfl)
#print axioms proved
end Go.Proofs.YtjcopneljfcfoaaDoor.textRaw
