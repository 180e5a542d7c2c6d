/- The law LowerClasses of layer 13 answers true for every shape and every configuration of little bulk, and leaves them as they were. Condition: what comes in holds together at most 1048576 values and letters. -/
import Derived.Test.YtpalofndmbmiiaaRows
import Derived.Test.YtpalofndmbmiiaaLowC
import Derived.Test.YtpalofndmbmiiaaOpenK
namespace Go.Proofs.Ytpalofndmbmiiaa.lowerClasses
open Go.ChangeShapes Go.WideShapes Go.ChangeAt Go.RowKit Go.Proofs.Ytpalofndmbmiiaa.Open Go.Proofs.Ytpalofndmbmiiaa.OpenK Go.Proofs.Ytpalofndmbmiiaa.PLow
open Go.Proofs.YtpalofndmbmiiaaW.PrintWords (Kd)
set_option linter.unusedVariables false
theorem own : ownKnob Try.prog.godebug = none := by kernel_rfl
theorem laidOut : laidOutB Try.prog = true := by kernel_rfl
structure S25 where
  f0 : Int
  f1 : (List Int)
  f2 : (List (List S81))
  f3 : (List Int)
  f4 : (List Int)
  f5 : (List Int)
def k25 : Kd S25 := Kd.iso (Kd.pair (Kd.int .u8) (Kd.pair (Kd.slice 5 (Kd.int .u8)) (Kd.pair (Kd.slice 60 (Kd.slice 81 k81)) (Kd.pair (Kd.slice 5 (Kd.int .u8)) (Kd.pair (Kd.slice 5 (Kd.int .u8)) (Kd.slice 5 (Kd.int .u8))))))) (fun x : S25 => (x.f0, x.f1, x.f2, x.f3, x.f4, x.f5))
theorem k25_open {w : World} {x : S25} {cs : List Value} (h : k25.K w x cs) : ∃ A1 c1 A2 c2 A3 c3 A4 c4 A5 c5, cs = [.int .u8 x.f0, .slice A1 x.f1.length c1, .slice A2 x.f2.length c2, .slice A3 x.f3.length c3, .slice A4 x.f4.length c4, .slice A5 x.f5.length c5] ∧ x.f1.length ≤ c1 ∧ Kd.C (Kd.int .u8) w A1 x.f1.length x.f1 ∧ x.f2.length ≤ c2 ∧ Kd.C (Kd.slice 81 k81) w A2 x.f2.length x.f2 ∧ x.f3.length ≤ c3 ∧ Kd.C (Kd.int .u8) w A3 x.f3.length x.f3 ∧ x.f4.length ≤ c4 ∧ Kd.C (Kd.int .u8) w A4 x.f4.length x.f4 ∧ x.f5.length ≤ c5 ∧ Kd.C (Kd.int .u8) w A5 x.f5.length x.f5 := by
  obtain ⟨_, _, rfl, rfl, ⟨_, _, rfl, ⟨A1, c1, rfl, l1, g1⟩, ⟨_, _, rfl, ⟨A2, c2, rfl, l2, g2⟩, ⟨_, _, rfl, ⟨A3, c3, rfl, l3, g3⟩, ⟨_, _, rfl, ⟨A4, c4, rfl, l4, g4⟩, ⟨A5, c5, rfl, l5, g5⟩⟩⟩⟩⟩⟩ := h
  exact ⟨A1, c1, A2, c2, A3, c3, A4, c4, A5, c5, rfl, l1, g1, l2, g2, l3, g3, l4, g4, l5, g5⟩
def ok_S81 {H : Type} (y : S81) (D : DataW H) : Prop := ∃ D0 D1 D2 D3 D4 D5, D = .agg [D0, D1, D2, D3, D4, D5] ∧ (fun (y : Int) D => (Lit.int .u8 y).wf = true ∧ D = .lit (.int .u8 y)) y.f0 D0  ∧ (fun (y : Int) D => (Lit.int .u8 y).wf = true ∧ D = .lit (.int .u8 y)) y.f1 D1  ∧ (fun (y : Int) D => (Lit.int .u8 y).wf = true ∧ D = .lit (.int .u8 y)) y.f2 D2  ∧ (fun (y : Int) D => (Lit.int .u8 y).wf = true ∧ D = .lit (.int .u8 y)) y.f3 D3  ∧ (fun (y : Int) D => (Lit.int .u8 y).wf = true ∧ D = .lit (.int .u8 y)) y.f4 D4  ∧ (fun (y : Int) D => (Lit.int .u8 y).wf = true ∧ D = .lit (.int .u8 y)) y.f5 D5
theorem opens_S81 {H : Type} {enc : TypeId × Value → H} {w : World} {base : Nat} {spare : Nat → Bool} {held : Bool} : Opens enc Try.prog w base spare held 81 k81 ok_S81 := by
  intro n cs x h
  obtain ⟨xs, n_, _, rfl, hl, hlen, hf⟩ := DataW.trod_struct Try.underlying81 h
  match xs, hlen with
  | [y0, y1, y2, y3, y4, y5], _ =>
    obtain ⟨x0, k0, o0⟩ := (show Opens enc Try.prog w base spare held _ (Kd.int .u8) (fun (y : Int) D => (Lit.int .u8 y).wf = true ∧ D = .lit (.int .u8 y)) from (opens_int Try.underlying5)) _ _ _ ((hf 0 _ rfl).trans rfl)
    obtain ⟨x1, k1, o1⟩ := (show Opens enc Try.prog w base spare held _ (Kd.int .u8) (fun (y : Int) D => (Lit.int .u8 y).wf = true ∧ D = .lit (.int .u8 y)) from (opens_int Try.underlying5)) _ _ _ ((hf 1 _ rfl).trans rfl)
    obtain ⟨x2, k2, o2⟩ := (show Opens enc Try.prog w base spare held _ (Kd.int .u8) (fun (y : Int) D => (Lit.int .u8 y).wf = true ∧ D = .lit (.int .u8 y)) from (opens_int Try.underlying5)) _ _ _ ((hf 2 _ rfl).trans rfl)
    obtain ⟨x3, k3, o3⟩ := (show Opens enc Try.prog w base spare held _ (Kd.int .u8) (fun (y : Int) D => (Lit.int .u8 y).wf = true ∧ D = .lit (.int .u8 y)) from (opens_int Try.underlying5)) _ _ _ ((hf 3 _ rfl).trans rfl)
    obtain ⟨x4, k4, o4⟩ := (show Opens enc Try.prog w base spare held _ (Kd.int .u8) (fun (y : Int) D => (Lit.int .u8 y).wf = true ∧ D = .lit (.int .u8 y)) from (opens_int Try.underlying5)) _ _ _ ((hf 4 _ rfl).trans rfl)
    obtain ⟨x5, k5, o5⟩ := (show Opens enc Try.prog w base spare held _ (Kd.int .u8) (fun (y : Int) D => (Lit.int .u8 y).wf = true ∧ D = .lit (.int .u8 y)) from (opens_int Try.underlying5)) _ _ _ ((hf 5 _ rfl).trans rfl)
    refine ⟨⟨x0, x1, x2, x3, x4, x5⟩, ?_, y0.1, y1.1, y2.1, y3.1, y4.1, y5.1, rfl, o0, o1, o2, o3, o4, o5⟩
    exact (pair_at (by kernel_rfl) k0 (pair_at (by kernel_rfl) k1 (pair_at (by kernel_rfl) k2 (pair_at (by kernel_rfl) k3 (pair_at (by kernel_rfl) k4 (last_at hl (by kernel_rfl) k5))))))
def ok_S25 {H : Type} (y : S25) (D : DataW H) : Prop := ∃ D0 D1 D2 D3 D4 D5, D = .agg [D0, D1, D2, D3, D4, D5] ∧ (fun (y : Int) D => (Lit.int .u8 y).wf = true ∧ D = .lit (.int .u8 y)) y.f0 D0  ∧ (OkRow (fun (y : Int) D => (Lit.int .u8 y).wf = true ∧ D = .lit (.int .u8 y))) y.f1 D1  ∧ (OkRow (OkRow ok_S81)) y.f2 D2  ∧ (OkRow (fun (y : Int) D => (Lit.int .u8 y).wf = true ∧ D = .lit (.int .u8 y))) y.f3 D3  ∧ (OkRow (fun (y : Int) D => (Lit.int .u8 y).wf = true ∧ D = .lit (.int .u8 y))) y.f4 D4  ∧ (OkRow (fun (y : Int) D => (Lit.int .u8 y).wf = true ∧ D = .lit (.int .u8 y))) y.f5 D5
theorem opens_S25 {H : Type} {enc : TypeId × Value → H} {w : World} {base : Nat} {spare : Nat → Bool} {held : Bool} : Opens enc Try.prog w base spare held 25 k25 ok_S25 := by
  intro n cs x h
  obtain ⟨xs, n_, _, rfl, hl, hlen, hf⟩ := DataW.trod_struct Try.underlying25 h
  match xs, hlen with
  | [y0, y1, y2, y3, y4, y5], _ =>
    obtain ⟨x0, k0, o0⟩ := (show Opens enc Try.prog w base spare held _ (Kd.int .u8) (fun (y : Int) D => (Lit.int .u8 y).wf = true ∧ D = .lit (.int .u8 y)) from (opens_int Try.underlying5)) _ _ _ ((hf 0 _ rfl).trans rfl)
    obtain ⟨x1, k1, o1⟩ := (show Opens enc Try.prog w base spare held _ (Kd.slice 5 (Kd.int .u8)) (OkRow (fun (y : Int) D => (Lit.int .u8 y).wf = true ∧ D = .lit (.int .u8 y))) from (opens_slice Try.underlying22 (by kernel_rfl) (opens_int Try.underlying5))) _ _ _ ((hf 1 _ rfl).trans rfl)
    obtain ⟨x2, k2, o2⟩ := (show Opens enc Try.prog w base spare held _ (Kd.slice 60 (Kd.slice 81 k81)) (OkRow (OkRow ok_S81)) from (opens_slice Try.underlying23 (by kernel_rfl) (opens_slice Try.underlying60 (by kernel_rfl) opens_S81))) _ _ _ ((hf 2 _ rfl).trans rfl)
    obtain ⟨x3, k3, o3⟩ := (show Opens enc Try.prog w base spare held _ (Kd.slice 5 (Kd.int .u8)) (OkRow (fun (y : Int) D => (Lit.int .u8 y).wf = true ∧ D = .lit (.int .u8 y))) from (opens_slice Try.underlying22 (by kernel_rfl) (opens_int Try.underlying5))) _ _ _ ((hf 3 _ rfl).trans rfl)
    obtain ⟨x4, k4, o4⟩ := (show Opens enc Try.prog w base spare held _ (Kd.slice 5 (Kd.int .u8)) (OkRow (fun (y : Int) D => (Lit.int .u8 y).wf = true ∧ D = .lit (.int .u8 y))) from (opens_slice Try.underlying22 (by kernel_rfl) (opens_int Try.underlying5))) _ _ _ ((hf 4 _ rfl).trans rfl)
    obtain ⟨x5, k5, o5⟩ := (show Opens enc Try.prog w base spare held _ (Kd.slice 5 (Kd.int .u8)) (OkRow (fun (y : Int) D => (Lit.int .u8 y).wf = true ∧ D = .lit (.int .u8 y))) from (opens_slice Try.underlying22 (by kernel_rfl) (opens_int Try.underlying5))) _ _ _ ((hf 5 _ rfl).trans rfl)
    refine ⟨⟨x0, x1, x2, x3, x4, x5⟩, ?_, y0.1, y1.1, y2.1, y3.1, y4.1, y5.1, rfl, o0, o1, o2, o3, o4, o5⟩
    exact (pair_at (by kernel_rfl) k0 (pair_at (by kernel_rfl) k1 (pair_at (by kernel_rfl) k2 (pair_at (by kernel_rfl) k3 (pair_at (by kernel_rfl) k4 (last_at hl (by kernel_rfl) k5))))))
def ok_S42 {H : Type} (y : S42) (D : DataW H) : Prop := ∃ D0 D1, D = .agg [D0, D1] ∧ (fun (y : Int) D => (Lit.int .u32 y).wf = true ∧ D = .lit (.int .u32 y)) y.f0 D0  ∧ (fun (y : Int) D => (Lit.int .i64 y).wf = true ∧ D = .lit (.int .i64 y)) y.f1 D1
theorem opens_S42 {H : Type} {enc : TypeId × Value → H} {w : World} {base : Nat} {spare : Nat → Bool} {held : Bool} : Opens enc Try.prog w base spare held 42 k42 ok_S42 := by
  intro n cs x h
  obtain ⟨xs, n_, _, rfl, hl, hlen, hf⟩ := DataW.trod_struct Try.underlying42 h
  match xs, hlen with
  | [y0, y1], _ =>
    obtain ⟨x0, k0, o0⟩ := (show Opens enc Try.prog w base spare held _ (Kd.int .u32) (fun (y : Int) D => (Lit.int .u32 y).wf = true ∧ D = .lit (.int .u32 y)) from (opens_int Try.underlying39)) _ _ _ ((hf 0 _ rfl).trans rfl)
    obtain ⟨x1, k1, o1⟩ := (show Opens enc Try.prog w base spare held _ (Kd.int .i64) (fun (y : Int) D => (Lit.int .i64 y).wf = true ∧ D = .lit (.int .i64 y)) from (opens_int Try.underlying3)) _ _ _ ((hf 1 _ rfl).trans rfl)
    refine ⟨⟨x0, x1⟩, ?_, y0.1, y1.1, rfl, o0, o1⟩
    exact (pair_at (by kernel_rfl) k0 (last_at hl (by kernel_rfl) k1))
def ok_S83 {H : Type} (y : S83) (D : DataW H) : Prop := ∃ D0 D1 D2 D3 D4 D5 D6 D7 D8, D = .agg [D0, D1, D2, D3, D4, D5, D6, D7, D8] ∧ (fun (y : Bool) D => D = .lit (.bool y)) y.f0 D0  ∧ ok_S42 y.f1 D1  ∧ (fun (y : Int) D => (Lit.int .u8 y).wf = true ∧ D = .lit (.int .u8 y)) y.f2 D2  ∧ (fun (y : Int) D => (Lit.int .u8 y).wf = true ∧ D = .lit (.int .u8 y)) y.f3 D3  ∧ (fun (y : Bool) D => D = .lit (.bool y)) y.f4 D4  ∧ (fun (y : Int) D => (Lit.int .u8 y).wf = true ∧ D = .lit (.int .u8 y)) y.f5 D5  ∧ (fun (y : Int) D => (Lit.int .u8 y).wf = true ∧ D = .lit (.int .u8 y)) y.f6 D6  ∧ (fun (y : Int) D => (Lit.int .i64 y).wf = true ∧ D = .lit (.int .i64 y)) y.f7 D7  ∧ (fun (y : Int) D => (Lit.int .i64 y).wf = true ∧ D = .lit (.int .i64 y)) y.f8 D8
theorem opens_S83 {H : Type} {enc : TypeId × Value → H} {w : World} {base : Nat} {spare : Nat → Bool} {held : Bool} : Opens enc Try.prog w base spare held 83 k83 ok_S83 := by
  intro n cs x h
  obtain ⟨xs, n_, _, rfl, hl, hlen, hf⟩ := DataW.trod_struct Try.underlying83 h
  match xs, hlen with
  | [y0, y1, y2, y3, y4, y5, y6, y7, y8], _ =>
    obtain ⟨x0, k0, o0⟩ := (show Opens enc Try.prog w base spare held _ Kd.bool (fun (y : Bool) D => D = .lit (.bool y)) from (opens_bool Try.underlying4)) _ _ _ ((hf 0 _ rfl).trans rfl)
    obtain ⟨x1, k1, o1⟩ := (show Opens enc Try.prog w base spare held _ k42 ok_S42 from opens_S42) _ _ _ ((hf 1 _ rfl).trans rfl)
    obtain ⟨x2, k2, o2⟩ := (show Opens enc Try.prog w base spare held _ (Kd.int .u8) (fun (y : Int) D => (Lit.int .u8 y).wf = true ∧ D = .lit (.int .u8 y)) from (opens_int Try.underlying5)) _ _ _ ((hf 2 _ rfl).trans rfl)
    obtain ⟨x3, k3, o3⟩ := (show Opens enc Try.prog w base spare held _ (Kd.int .u8) (fun (y : Int) D => (Lit.int .u8 y).wf = true ∧ D = .lit (.int .u8 y)) from (opens_int Try.underlying5)) _ _ _ ((hf 3 _ rfl).trans rfl)
    obtain ⟨x4, k4, o4⟩ := (show Opens enc Try.prog w base spare held _ Kd.bool (fun (y : Bool) D => D = .lit (.bool y)) from (opens_bool Try.underlying4)) _ _ _ ((hf 4 _ rfl).trans rfl)
    obtain ⟨x5, k5, o5⟩ := (show Opens enc Try.prog w base spare held _ (Kd.int .u8) (fun (y : Int) D => (Lit.int .u8 y).wf = true ∧ D = .lit (.int .u8 y)) from (opens_int Try.underlying5)) _ _ _ ((hf 5 _ rfl).trans rfl)
    obtain ⟨x6, k6, o6⟩ := (show Opens enc Try.prog w base spare held _ (Kd.int .u8) (fun (y : Int) D => (Lit.int .u8 y).wf = true ∧ D = .lit (.int .u8 y)) from (opens_int Try.underlying5)) _ _ _ ((hf 6 _ rfl).trans rfl)
    obtain ⟨x7, k7, o7⟩ := (show Opens enc Try.prog w base spare held _ (Kd.int .i64) (fun (y : Int) D => (Lit.int .i64 y).wf = true ∧ D = .lit (.int .i64 y)) from (opens_int Try.underlying3)) _ _ _ ((hf 7 _ rfl).trans rfl)
    obtain ⟨x8, k8, o8⟩ := (show Opens enc Try.prog w base spare held _ (Kd.int .i64) (fun (y : Int) D => (Lit.int .i64 y).wf = true ∧ D = .lit (.int .i64 y)) from (opens_int Try.underlying3)) _ _ _ ((hf 8 _ rfl).trans rfl)
    refine ⟨⟨x0, x1, x2, x3, x4, x5, x6, x7, x8⟩, ?_, y0.1, y1.1, y2.1, y3.1, y4.1, y5.1, y6.1, y7.1, y8.1, rfl, o0, o1, o2, o3, o4, o5, o6, o7, o8⟩
    exact (pair_at (by kernel_rfl) k0 (pair_at (by kernel_rfl) k1 (pair_at (by kernel_rfl) k2 (pair_at (by kernel_rfl) k3 (pair_at (by kernel_rfl) k4 (pair_at (by kernel_rfl) k5 (pair_at (by kernel_rfl) k6 (pair_at (by kernel_rfl) k7 (last_at hl (by kernel_rfl) k8)))))))))
def ok_S63 {H : Type} (y : S63) (D : DataW H) : Prop := ∃ D0 D1 D2, D = .agg [D0, D1, D2] ∧ (fun (y : ByteArray) D => y.size ≤ maxLen ∧ D = .lit (.string y.data.toList)) y.f0 D0  ∧ (OkRow ok_S83) y.f1 D1  ∧ (fun (y : Int) D => (Lit.int .i64 y).wf = true ∧ D = .lit (.int .i64 y)) y.f2 D2
theorem opens_S63 {H : Type} {enc : TypeId × Value → H} {w : World} {base : Nat} {spare : Nat → Bool} {held : Bool} : Opens enc Try.prog w base spare held 63 k63 ok_S63 := by
  intro n cs x h
  obtain ⟨xs, n_, _, rfl, hl, hlen, hf⟩ := DataW.trod_struct Try.underlying63 h
  match xs, hlen with
  | [y0, y1, y2], _ =>
    obtain ⟨x0, k0, o0⟩ := (show Opens enc Try.prog w base spare held _ Kd.string (fun (y : ByteArray) D => y.size ≤ maxLen ∧ D = .lit (.string y.data.toList)) from (opens_str Try.underlying9)) _ _ _ ((hf 0 _ rfl).trans rfl)
    obtain ⟨x1, k1, o1⟩ := (show Opens enc Try.prog w base spare held _ (Kd.slice 83 k83) (OkRow ok_S83) from (opens_slice Try.underlying50 (by kernel_rfl) opens_S83)) _ _ _ ((hf 1 _ rfl).trans rfl)
    obtain ⟨x2, k2, o2⟩ := (show Opens enc Try.prog w base spare held _ (Kd.int .i64) (fun (y : Int) D => (Lit.int .i64 y).wf = true ∧ D = .lit (.int .i64 y)) from (opens_int Try.underlying3)) _ _ _ ((hf 2 _ rfl).trans rfl)
    refine ⟨⟨x0, x1, x2⟩, ?_, y0.1, y1.1, y2.1, rfl, o0, o1, o2⟩
    exact (pair_at (by kernel_rfl) k0 (pair_at (by kernel_rfl) k1 (last_at hl (by kernel_rfl) k2)))
def ok_S38 {H : Type} (y : S38) (D : DataW H) : Prop := ∃ D0 D1 D2 D3 D4, D = .agg [D0, D1, D2, D3, D4] ∧ (fun (y : ByteArray) D => y.size ≤ maxLen ∧ D = .lit (.string y.data.toList)) y.f0 D0  ∧ (fun (y : Int) D => (Lit.int .i64 y).wf = true ∧ D = .lit (.int .i64 y)) y.f1 D1  ∧ (fun (y : ByteArray) D => y.size ≤ maxLen ∧ D = .lit (.string y.data.toList)) y.f2 D2  ∧ (fun (y : ByteArray) D => y.size ≤ maxLen ∧ D = .lit (.string y.data.toList)) y.f3 D3  ∧ (fun (y : Int) D => (Lit.int .i64 y).wf = true ∧ D = .lit (.int .i64 y)) y.f4 D4
theorem opens_S38 {H : Type} {enc : TypeId × Value → H} {w : World} {base : Nat} {spare : Nat → Bool} {held : Bool} : Opens enc Try.prog w base spare held 38 k38 ok_S38 := by
  intro n cs x h
  obtain ⟨xs, n_, _, rfl, hl, hlen, hf⟩ := DataW.trod_struct Try.underlying38 h
  match xs, hlen with
  | [y0, y1, y2, y3, y4], _ =>
    obtain ⟨x0, k0, o0⟩ := (show Opens enc Try.prog w base spare held _ Kd.string (fun (y : ByteArray) D => y.size ≤ maxLen ∧ D = .lit (.string y.data.toList)) from (opens_str Try.underlying9)) _ _ _ ((hf 0 _ rfl).trans rfl)
    obtain ⟨x1, k1, o1⟩ := (show Opens enc Try.prog w base spare held _ (Kd.int .i64) (fun (y : Int) D => (Lit.int .i64 y).wf = true ∧ D = .lit (.int .i64 y)) from (opens_int Try.underlying3)) _ _ _ ((hf 1 _ rfl).trans rfl)
    obtain ⟨x2, k2, o2⟩ := (show Opens enc Try.prog w base spare held _ Kd.string (fun (y : ByteArray) D => y.size ≤ maxLen ∧ D = .lit (.string y.data.toList)) from (opens_str Try.underlying9)) _ _ _ ((hf 2 _ rfl).trans rfl)
    obtain ⟨x3, k3, o3⟩ := (show Opens enc Try.prog w base spare held _ Kd.string (fun (y : ByteArray) D => y.size ≤ maxLen ∧ D = .lit (.string y.data.toList)) from (opens_str Try.underlying9)) _ _ _ ((hf 3 _ rfl).trans rfl)
    obtain ⟨x4, k4, o4⟩ := (show Opens enc Try.prog w base spare held _ (Kd.int .i64) (fun (y : Int) D => (Lit.int .i64 y).wf = true ∧ D = .lit (.int .i64 y)) from (opens_int Try.underlying3)) _ _ _ ((hf 4 _ rfl).trans rfl)
    refine ⟨⟨x0, x1, x2, x3, x4⟩, ?_, y0.1, y1.1, y2.1, y3.1, y4.1, rfl, o0, o1, o2, o3, o4⟩
    exact (pair_at (by kernel_rfl) k0 (pair_at (by kernel_rfl) k1 (pair_at (by kernel_rfl) k2 (pair_at (by kernel_rfl) k3 (last_at hl (by kernel_rfl) k4)))))
def ok_S67 {H : Type} (y : S67) (D : DataW H) : Prop := ∃ D0 D1 D2, D = .agg [D0, D1, D2] ∧ ok_S42 y.f0 D0  ∧ (fun (y : ByteArray) D => y.size ≤ maxLen ∧ D = .lit (.string y.data.toList)) y.f1 D1  ∧ (fun (y : Int) D => (Lit.int .i64 y).wf = true ∧ D = .lit (.int .i64 y)) y.f2 D2
theorem opens_S67 {H : Type} {enc : TypeId × Value → H} {w : World} {base : Nat} {spare : Nat → Bool} {held : Bool} : Opens enc Try.prog w base spare held 67 k67 ok_S67 := by
  intro n cs x h
  obtain ⟨xs, n_, _, rfl, hl, hlen, hf⟩ := DataW.trod_struct Try.underlying67 h
  match xs, hlen with
  | [y0, y1, y2], _ =>
    obtain ⟨x0, k0, o0⟩ := (show Opens enc Try.prog w base spare held _ k42 ok_S42 from opens_S42) _ _ _ ((hf 0 _ rfl).trans rfl)
    obtain ⟨x1, k1, o1⟩ := (show Opens enc Try.prog w base spare held _ Kd.string (fun (y : ByteArray) D => y.size ≤ maxLen ∧ D = .lit (.string y.data.toList)) from (opens_str Try.underlying9)) _ _ _ ((hf 1 _ rfl).trans rfl)
    obtain ⟨x2, k2, o2⟩ := (show Opens enc Try.prog w base spare held _ (Kd.int .i64) (fun (y : Int) D => (Lit.int .i64 y).wf = true ∧ D = .lit (.int .i64 y)) from (opens_int Try.underlying3)) _ _ _ ((hf 2 _ rfl).trans rfl)
    refine ⟨⟨x0, x1, x2⟩, ?_, y0.1, y1.1, y2.1, rfl, o0, o1, o2⟩
    exact (pair_at (by kernel_rfl) k0 (pair_at (by kernel_rfl) k1 (last_at hl (by kernel_rfl) k2)))
def ok_S36 {H : Type} (y : S36) (D : DataW H) : Prop := ∃ D0 D1 D2 D3 D4, D = .agg [D0, D1, D2, D3, D4] ∧ (fun (y : ByteArray) D => y.size ≤ maxLen ∧ D = .lit (.string y.data.toList)) y.f0 D0  ∧ (OkRow ok_S42) y.f1 D1  ∧ (OkRow ok_S38) y.f2 D2  ∧ (OkRow ok_S67) y.f3 D3  ∧ (fun (y : Int) D => (Lit.int .i64 y).wf = true ∧ D = .lit (.int .i64 y)) y.f4 D4
theorem opens_S36 {H : Type} {enc : TypeId × Value → H} {w : World} {base : Nat} {spare : Nat → Bool} {held : Bool} : Opens enc Try.prog w base spare held 36 k36 ok_S36 := by
  intro n cs x h
  obtain ⟨xs, n_, _, rfl, hl, hlen, hf⟩ := DataW.trod_struct Try.underlying36 h
  match xs, hlen with
  | [y0, y1, y2, y3, y4], _ =>
    obtain ⟨x0, k0, o0⟩ := (show Opens enc Try.prog w base spare held _ Kd.string (fun (y : ByteArray) D => y.size ≤ maxLen ∧ D = .lit (.string y.data.toList)) from (opens_str Try.underlying9)) _ _ _ ((hf 0 _ rfl).trans rfl)
    obtain ⟨x1, k1, o1⟩ := (show Opens enc Try.prog w base spare held _ (Kd.slice 42 k42) (OkRow ok_S42) from (opens_slice Try.underlying32 (by kernel_rfl) opens_S42)) _ _ _ ((hf 1 _ rfl).trans rfl)
    obtain ⟨x2, k2, o2⟩ := (show Opens enc Try.prog w base spare held _ (Kd.slice 38 k38) (OkRow ok_S38) from (opens_slice Try.underlying33 (by kernel_rfl) opens_S38)) _ _ _ ((hf 2 _ rfl).trans rfl)
    obtain ⟨x3, k3, o3⟩ := (show Opens enc Try.prog w base spare held _ (Kd.slice 67 k67) (OkRow ok_S67) from (opens_slice Try.underlying34 (by kernel_rfl) opens_S67)) _ _ _ ((hf 3 _ rfl).trans rfl)
    obtain ⟨x4, k4, o4⟩ := (show Opens enc Try.prog w base spare held _ (Kd.int .i64) (fun (y : Int) D => (Lit.int .i64 y).wf = true ∧ D = .lit (.int .i64 y)) from (opens_int Try.underlying3)) _ _ _ ((hf 4 _ rfl).trans rfl)
    refine ⟨⟨x0, x1, x2, x3, x4⟩, ?_, y0.1, y1.1, y2.1, y3.1, y4.1, rfl, o0, o1, o2, o3, o4⟩
    exact (pair_at (by kernel_rfl) k0 (pair_at (by kernel_rfl) k1 (pair_at (by kernel_rfl) k2 (pair_at (by kernel_rfl) k3 (last_at hl (by kernel_rfl) k4)))))
def ok_S30 {H : Type} (y : S30) (D : DataW H) : Prop := ∃ D0 D1, D = .agg [D0, D1] ∧ (OkRow ok_S63) y.f0 D0  ∧ (OkRow ok_S36) y.f1 D1
theorem opens_S30 {H : Type} {enc : TypeId × Value → H} {w : World} {base : Nat} {spare : Nat → Bool} {held : Bool} : Opens enc Try.prog w base spare held 30 k30 ok_S30 := by
  intro n cs x h
  obtain ⟨xs, n_, _, rfl, hl, hlen, hf⟩ := DataW.trod_struct Try.underlying30 h
  match xs, hlen with
  | [y0, y1], _ =>
    obtain ⟨x0, k0, o0⟩ := (show Opens enc Try.prog w base spare held _ (Kd.slice 63 k63) (OkRow ok_S63) from (opens_slice Try.underlying27 (by kernel_rfl) opens_S63)) _ _ _ ((hf 0 _ rfl).trans rfl)
    obtain ⟨x1, k1, o1⟩ := (show Opens enc Try.prog w base spare held _ (Kd.slice 36 k36) (OkRow ok_S36) from (opens_slice Try.underlying28 (by kernel_rfl) opens_S36)) _ _ _ ((hf 1 _ rfl).trans rfl)
    refine ⟨⟨x0, x1⟩, ?_, y0.1, y1.1, rfl, o0, o1⟩
    exact (pair_at (by kernel_rfl) k0 (last_at hl (by kernel_rfl) k1))
set_option maxRecDepth 100000 in
theorem lifted (os : Os) (started : os.Started) (H : Type) (enc : TypeId × Value → H) (F : Stop.Interp) :
    ReturnsInHanded {} Try.checked os 5 .any ((Rows.OpenSpec.upto Rows.lowerClassesSpec).pre6 enc Try.prog Try.f5 Rows.lowerClassesUptoRow.domain false) (((Rows.OpenSpec.upto Rows.lowerClassesSpec).at F).post enc Try.prog Try.f5 false true false false) := by
  refine lifted_of_walk_upto (C := Try.checked) (tb := 4) own started (by kernel_rfl) Try.func5 laidOut rfl ?_ rfl Try.underlying4 ?_
    (OpenSpec.witness (enc := enc) (C := Try.checked) (s := Rows.OpenSpec.upto Rows.lowerClassesSpec) (k := Rows.uptoSmall) rfl false ⟨#[], #[.agg #[.int .u8 0, .slice none 0 0, .slice none 0 0, .slice none 0 0, .slice none 0 0, .slice none 0 0], .agg #[.slice none 0 0, .slice none 0 0]], []⟩ 8 (by kernel_rfl) (by kernel_rfl) (by kernel_rfl)
      (x := ([.agg [.lit (.int .u8 0), .nil, .nil, .nil, .nil, .nil], .agg [.nil, .nil]], [], [])) (by kernel_rfl) rfl (by kernel_rfl)) ?_
  · intro ds h
    match ds, h with
    | [d0, d1], _ => rfl
  · intro t ht
    have : t = 25 ∨ t = 30 := by simpa [Try.f5] using ht
    rcases this with rfl | rfl
    · exact ⟨by kernel_rfl, of_decide_eq_true (by kernel_rfl)⟩
    · exact ⟨by kernel_rfl, of_decide_eq_true (by kernel_rfl)⟩
  · intro W base args ds p hval0 hA0 hbulk
    have hval : ∀ (j : Nat) t v, Try.f5.params[j]? = some t → args[j]? = some v → Value.okWide Try.prog W .any base t v := hval0
    have hA : DataW.TrodAll enc Try.prog W 0 (fun _ => true) true Try.f5.params.toList args.toList ds p := hA0
    rw [Try.params5] at hA hval
    obtain ⟨v0, vs0, d0, ds0, p0, q0, hargs, rfl, rfl, h0, r0⟩ := trodAll_cons hA
    obtain ⟨v1, vs1, d1, ds1, p1, q1, rfl, rfl, rfl, h1, r1⟩ := trodAll_cons r0
    obtain ⟨rfl, rfl, rfl⟩ := trodAll_nil r1
    obtain rfl : args = #[v0, v1] := by cases args; simp_all
    clear hA0 hval0
    obtain ⟨x0, cs0, rfl, hK0, hok0⟩ := open_agg Try.underlying25 (hval 0 _ v0 rfl rfl) (opens_S25 (enc := enc) (w := W)) h0
    obtain ⟨A0_1, c0_1, A0_2, c0_2, A0_3, c0_3, A0_4, c0_4, A0_5, c0_5, hcs0, hc0_1, hr0_1, hc0_2, hr0_2, hc0_3, hr0_3, hc0_4, hr0_4, hc0_5, hr0_5⟩ := k25_open hK0
    obtain rfl := agg_eq hcs0
    obtain ⟨x1, cs1, rfl, hK1, hok1⟩ := open_agg Try.underlying30 (hval 1 _ v1 rfl rfl) (opens_S30 (enc := enc) (w := W)) h1
    obtain ⟨A1_0, c1_0, A1_1, c1_1, hcs1, hc1_0, hr1_0, hc1_1, hr1_1⟩ := k30_open hK1
    obtain rfl := agg_eq hcs1
    simp only [Rows.uptoBulkAll] at hbulk
    have hS0 : Cfg.Shape x0.f0 x0.f1 x0.f2 x0.f3 x0.f4 x0.f5 := by
      obtain ⟨Ea, Eb, Ec, Ed, Ee, Ef, _, sa, sb, sc, sd, se, sf⟩ := hok0
      have hB : ∀ (l : List Int) (D : DataW H), OkRow (fun (y : Int) D => (Lit.int .u8 y).wf = true ∧ D = .lit (.int .u8 y)) l D → Cfg.okB l := fun l D h => OkRow.nth h (fun y e he => wf_u8' he.1)
      refine ⟨wf_u8' sa.1, hB _ _ sb, OkRow.nth sc ?_, hB _ _ sd, hB _ _ se, hB _ _ sf, hr0_2.2.1, fun l hl => ?_⟩
      · intro l e he
        refine OkRow.nth he ?_
        rintro y e ⟨F0, F1, F2, F3, F4, F5, _, q0, q1, q2, q3, q4, q5⟩
        exact ⟨wf_u8' q0.1, wf_u8' q1.1, wf_u8' q2.1, wf_u8' q3.1, wf_u8' q4.1, wf_u8' q5.1⟩
      · obtain ⟨i, hi⟩ := List.mem_iff_getElem?.1 hl
        obtain ⟨ad, _, hrow⟩ := hr0_2.2.2 (List.length_pos_of_mem hl)
        obtain ⟨c, _, ⟨A, n, _, _, hC⟩, _⟩ := hrow i l hi
        exact hC.2.1
    obtain ⟨D0, D1, rfl, o0, o1⟩ := hok1
    simp only [Rows.uptoBulk, Rows.uptoBulkAll] at hbulk
    have hn : ∀ (y : S36) (e : DataW H), ok_S36 y e → y.f1.length ≤ 1 * Rows.uptoBulk e := by
      rintro y e ⟨E0, E1, E2, E3, E4, rfl, _, q1, _⟩
      have h1 := OkRow.length_le q1
      simp only [Rows.uptoBulk, Rows.uptoBulkAll]
      omega
    have hs : LowC.sz x1.f1 ≤ 1 * Rows.uptoBulk D1 := OkRow.sum_le (f := fun (r : S36) => r.f1.length) o1 hn
    have hl := OkRow.length_le o1
    have hp := OkRow.part_le (f := fun (r : S36) => r.f1.length) o1 (fun y e he => by have := hn y e he; omega)
    obtain ⟨k, hk⟩ := LowC.llow hS0 x1.f0 x1.f1 ⟨by omega, fun r hr => by have h7 := hp r hr; omega, by omega⟩
    exact (maquettelaw13_LowerClasses.calls k _ _ _ _ _ _ _ _ _ _ _ _ _ _ _ _ (fun _ => True) _ _ _ (fun _ => True) _ _ _ true W hr0_1 hc0_1 hr0_2 hc0_2 hr0_3 hc0_3 hr0_4 hc0_4 hr0_5 hc0_5 (LowC.V_of_C LowC.hp_mp hr1_0 hc1_0 _ _) (LowC.V_of_C LowC.hp_rt hr1_1 hc1_1 _ _) hk).mono fun e W' ⟨he, hb⟩ => ⟨he, hb⟩
theorem over : Rows.lowerClassesUptoRow.holds Try.pinned (Rows.OpenSpec.upto Rows.lowerClassesSpec) :=
  OpenClaim.holds_of_cond 5 Try.f5 rfl rfl rfl rfl rfl rfl rfl ⟨rfl, rfl, rfl, rfl, rfl⟩ rfl rfl rfl rfl rfl (by kernel_rfl) Try.func5 (by kernel_rfl)
    (of_decide_eq_true (by kernel_rfl)) (by unfold Func.isWrapper; first | (rw [if_pos (by decide +kernel)]; kernel_rfl) | (rw [if_neg (by decide +kernel)]; exact ⟨rfl, rfl⟩))
    (fun os started H enc _ F => lifted os started H enc F)
theorem proved : Rows.LowerClassesUptoSaid := over
#print axioms proved
end Go.Proofs.Ytpalofndmbmiiaa.lowerClasses
