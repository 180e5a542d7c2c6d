-- Written by wip/xprint.py of this work: the printer of the kit, with contracts of this work beside it, shortened.
import Derived.Test.YtmnpgcmpaiejaaaDoorProg
import Derived.Below
import Derived.Deep.Draws
import Derived.Deep.AppendLies
import Derived.Maps.AppendAt
import Derived.OwnWalk
import Derived.Laws.BytesArg
import Derived.Laws.MakeOwn
import Derived.Laws.OwnMore
import Derived.Deep.OwnRows
import Derived.Tactics
import Derived.Lib.ConvBytes
import Derived.Laws.Slices
import Derived.WalkKit
import Derived.KernelRfl
import Derived.RowKit3
import Derived.Deep.LoopGhost
import Derived.Deep.QuietTactic
import Derived.BigQuiet
import Derived.WideLaws
import Derived.Deep.DeepCutAuto
import Derived.Deep.CutBlock
import Derived.Deep.RegionHeld3
import Derived.Laws.Rows
import Derived.Lib.AppendStr
import Derived.ArgAppend
import Derived.Laws.IdiomCopy
import Derived.OrdersHeld
import Derived.Laws.BitsLemmas
import Derived.RowKit
import Derived.Test.YtmnpgcmpaiejaaaDoorWWords
import Derived.Test.YtmnpgcmpaiejaaaDoorWLast
import Derived.Test.YtmnpgcmpaiejaaaDoorWTab
import Derived.Test.YtmnpgcmpaiejaaaDoorWFour
import Derived.Test.YtmnpgcmpaiejaaaDoorWQPut
import Derived.Test.YtmnpgcmpaiejaaaDoorWApart
import Derived.Test.YtmnpgcmpaiejaaaDoorWArr
import Derived.Test.YtmnpgcmpaiejaaaDoorWZeros
import Derived.Test.YtmnpgcmpaiejaaaDoorWFoot
import Derived.Test.YtmnpgcmpaiejaaaDoorWKept
import Derived.Test.YtmnpgcmpaiejaaaDoorWShare
import Derived.Test.YtmnpgcmpaiejaaaDoorWN
import Derived.Test.YtmnpgcmpaiejaaaDoorWFootNe
import Derived.Test.YtmnpgcmpaiejaaaDoorWAt
import Derived.Test.YtmnpgcmpaiejaaaDoorWEqStruct
import Derived.Test.YtmnpgcmpaiejaaaDoorWRepsOne
import Derived.Test.YtmnpgcmpaiejaaaDoorWInv
import Derived.Test.YtmnpgcmpaiejaaaDoorWInvWords
import Derived.Test.YtmnpgcmpaiejaaaDoorWGuard
import Derived.Test.YtmnpgcmpaiejaaaDoorWNEv
import Derived.Test.YtmnpgcmpaiejaaaDoorWMore
import Derived.Test.YtmnpgcmpaiejaaaDoorLibs
namespace Go.Proofs.YtmnpgcmpaiejaaaDoor.PTok
open Go.RowKit Go.Proofs.YtmnpgcmpaiejaaaDoorW.PrintWords Go.Proofs.YtmnpgcmpaiejaaaDoorW.PrintLast Go.Proofs.YtmnpgcmpaiejaaaDoorW.PrintMore
attribute [local go_sem] max2_int min2_int max_two min_two max_three min_three max_four min_four   -- for this text's walks alone
set_option linter.unusedVariables false
set_option linter.unusedSimpArgs false



def errW : Option Int → Value
  | none => .nilIface
  | some c => .iface 0 (.int .i64 c)
theorem errW_none : errW none = .nilIface := rfl
theorem errW_some (c : Int) : errW (some c) = .iface 0 (.int .i64 c) := rfl

theorem info34 : (Tryd.prog.info? 34).map (fun i => (i.zero, i.size, i.bytes)) = some (some (.agg #[(.int .i64 0), (.string ⟨#[]⟩), (.int .i64 0), (.int .u32 0), (.int .i64 0), (.int .i64 0)]), 6, 56) := by kernel_rfl
-- the values' own types
def rd_L3 (xs : List (List ByteArray)) (i : Int) : (List ByteArray) := xs.getD i.toNat ([] : List ByteArray)
theorem at_L3 {w : World} {A : Option Addr} {n : Nat} {xs : List (List ByteArray)} (h : Kd.C (Kd.slice 9 Kd.string) w A n xs) (i : Int) (h0 : 0 ≤ i) (h1 : i < n) : ∃ ad A0 c0, A = some ad ∧ w.cell? (ad.add i.toNat) = some (.slice A0 (rd_L3 xs i).length c0) ∧ (rd_L3 xs i).length ≤ c0 ∧ Kd.string.C w A0 (rd_L3 xs i).length (rd_L3 xs i) := by
  obtain ⟨ad, c, e, _, hK, hc0⟩ := Kd.C_get h ([] : List ByteArray) i h0 h1
  have hc : ∀ j u, c[j]? = some u → w.cell? (ad.add (i.toNat * 1 + j)) = some u := hc0
  obtain ⟨A0, c0, rfl, l0, g0⟩ := hK
  exact ⟨ad, A0, c0, e, by have hq := hc 0 _ rfl; rwa [Nat.mul_one, Nat.add_zero] at hq, l0, g0⟩

/-! #### struct type 32 -/
structure S32 where
  f0 : Int
  f1 : Int
def z32 : S32 := ⟨(0 : Int), (0 : Int)⟩
def k32 : Kd S32 := Kd.iso (Kd.pair (Kd.int .u32) (Kd.int .i64)) (fun x : S32 => (x.f0, x.f1))
theorem k32_open {w : World} {x : S32} {cs : List Value} (h : k32.K w x cs) : cs = [.int .u32 x.f0, .int .i64 x.f1] := by
  obtain ⟨_, _, rfl, rfl, rfl⟩ := h
  exact rfl
theorem k32_openM {w : World} {base : Nat} {ok : Nat → Prop} {x : S32} {cs : List Value} (h : k32.M w base ok x cs) : cs = [.int .u32 x.f0, .int .i64 x.f1] := by
  obtain ⟨_, _, rfl, rfl, rfl⟩ := h
  exact rfl
theorem k32_mk (w : World) (x : S32)  : k32.K w x [.int .u32 x.f0, .int .i64 x.f1] := ⟨[.int .u32 x.f0], [.int .i64 x.f1], rfl, rfl, rfl⟩
theorem k32_mkM (w : World) (base : Nat) (ok : Nat → Prop) (x : S32)  : k32.M w base ok x [.int .u32 x.f0, .int .i64 x.f1] := ⟨[.int .u32 x.f0], [.int .i64 x.f1], rfl, rfl, rfl⟩
def rd_T32 (xs : List S32) (i : Int) : S32 := xs.getD i.toNat z32
theorem at_T32 {w : World} {A : Option Addr} {n : Nat} {xs : List S32} (h : Kd.C k32 w A n xs) (i : Int) (h0 : 0 ≤ i) (h1 : i < n) : ∃ ad , A = some ad ∧ w.cell? (ad.add (i.toNat * 2)) = some (.int .u32 (rd_T32 xs i).f0) ∧ w.cell? ⟨(ad.add (i.toNat * 2)).block, (ad.add (i.toNat * 2)).off + 1, none⟩ = some (.int .i64 (rd_T32 xs i).f1) := by
  obtain ⟨ad, c, e, _, hK, hc0⟩ := Kd.C_get h z32 i h0 h1
  have hc : ∀ j u, c[j]? = some u → w.cell? (ad.add (i.toNat * 2 + j)) = some u := hc0
  obtain rfl := k32_open hK
  exact ⟨ad, e, hc 0 _ rfl, by rw [← add_field _ _ 1 (by omega)]; exact hc 1 _ rfl⟩

/-! #### struct type 34 -/
structure S34 where
  f0 : Int
  f1 : ByteArray
  f2 : Int
  f3 : S32
  f4 : Int
def z34 : S34 := ⟨(0 : Int), (⟨#[]⟩ : ByteArray), (0 : Int), z32, (0 : Int)⟩
def k34 : Kd S34 := Kd.iso (Kd.pair (Kd.int .i64) (Kd.pair Kd.string (Kd.pair (Kd.int .i64) (Kd.pair k32 (Kd.int .i64))))) (fun x : S34 => (x.f0, x.f1, x.f2, x.f3, x.f4))
theorem k34_open {w : World} {x : S34} {cs : List Value} (h : k34.K w x cs) : cs = [.int .i64 x.f0, .string x.f1, .int .i64 x.f2, .int .u32 x.f3.f0, .int .i64 x.f3.f1, .int .i64 x.f4] := by
  obtain ⟨_, _, rfl, rfl, ⟨_, _, rfl, rfl, ⟨_, _, rfl, rfl, ⟨_, _, rfl, s3, rfl⟩⟩⟩⟩ := h
  obtain rfl := k32_open s3
  exact rfl
theorem k34_openM {w : World} {base : Nat} {ok : Nat → Prop} {x : S34} {cs : List Value} (h : k34.M w base ok x cs) : cs = [.int .i64 x.f0, .string x.f1, .int .i64 x.f2, .int .u32 x.f3.f0, .int .i64 x.f3.f1, .int .i64 x.f4] := by
  obtain ⟨_, _, rfl, rfl, ⟨_, _, rfl, rfl, ⟨_, _, rfl, rfl, ⟨_, _, rfl, s3, rfl⟩⟩⟩⟩ := h
  obtain rfl := k32_openM s3
  exact rfl
theorem k34_mk (w : World) (x : S34)  : k34.K w x [.int .i64 x.f0, .string x.f1, .int .i64 x.f2, .int .u32 x.f3.f0, .int .i64 x.f3.f1, .int .i64 x.f4] := ⟨[.int .i64 x.f0], [.string x.f1, .int .i64 x.f2, .int .u32 x.f3.f0, .int .i64 x.f3.f1, .int .i64 x.f4], rfl, rfl, ⟨[.string x.f1], [.int .i64 x.f2, .int .u32 x.f3.f0, .int .i64 x.f3.f1, .int .i64 x.f4], rfl, rfl, ⟨[.int .i64 x.f2], [.int .u32 x.f3.f0, .int .i64 x.f3.f1, .int .i64 x.f4], rfl, rfl, ⟨[.int .u32 x.f3.f0, .int .i64 x.f3.f1], [.int .i64 x.f4], rfl, (k32_mk w x.f3 ), rfl⟩⟩⟩⟩
theorem k34_mkM (w : World) (base : Nat) (ok : Nat → Prop) (x : S34)  : k34.M w base ok x [.int .i64 x.f0, .string x.f1, .int .i64 x.f2, .int .u32 x.f3.f0, .int .i64 x.f3.f1, .int .i64 x.f4] := ⟨[.int .i64 x.f0], [.string x.f1, .int .i64 x.f2, .int .u32 x.f3.f0, .int .i64 x.f3.f1, .int .i64 x.f4], rfl, rfl, ⟨[.string x.f1], [.int .i64 x.f2, .int .u32 x.f3.f0, .int .i64 x.f3.f1, .int .i64 x.f4], rfl, rfl, ⟨[.int .i64 x.f2], [.int .u32 x.f3.f0, .int .i64 x.f3.f1, .int .i64 x.f4], rfl, rfl, ⟨[.int .u32 x.f3.f0, .int .i64 x.f3.f1], [.int .i64 x.f4], rfl, (k32_mkM w base ok x.f3 ), rfl⟩⟩⟩⟩
def rd_T34 (xs : List S34) (i : Int) : S34 := xs.getD i.toNat z34
theorem at_T34 {w : World} {A : Option Addr} {n : Nat} {xs : List S34} (h : Kd.C k34 w A n xs) (i : Int) (h0 : 0 ≤ i) (h1 : i < n) : ∃ ad , A = some ad ∧ w.cell? (ad.add (i.toNat * 6)) = some (.int .i64 (rd_T34 xs i).f0) ∧ w.cell? ⟨(ad.add (i.toNat * 6)).block, (ad.add (i.toNat * 6)).off + 1, none⟩ = some (.string (rd_T34 xs i).f1) ∧ w.cell? ⟨(ad.add (i.toNat * 6)).block, (ad.add (i.toNat * 6)).off + 2, none⟩ = some (.int .i64 (rd_T34 xs i).f2) ∧ w.cell? ⟨(ad.add (i.toNat * 6)).block, (ad.add (i.toNat * 6)).off + 3, none⟩ = some (.int .u32 (rd_T34 xs i).f3.f0) ∧ w.cell? ⟨(ad.add (i.toNat * 6)).block, (ad.add (i.toNat * 6)).off + 4, none⟩ = some (.int .i64 (rd_T34 xs i).f3.f1) ∧ w.cell? ⟨(ad.add (i.toNat * 6)).block, (ad.add (i.toNat * 6)).off + 5, none⟩ = some (.int .i64 (rd_T34 xs i).f4) := by
  obtain ⟨ad, c, e, _, hK, hc0⟩ := Kd.C_get h z34 i h0 h1
  have hc : ∀ j u, c[j]? = some u → w.cell? (ad.add (i.toNat * 6 + j)) = some u := hc0
  obtain rfl := k34_open hK
  exact ⟨ad, e, hc 0 _ rfl, by rw [← add_field _ _ 1 (by omega)]; exact hc 1 _ rfl, by rw [← add_field _ _ 2 (by omega)]; exact hc 2 _ rfl, by rw [← add_field _ _ 3 (by omega)]; exact hc 3 _ rfl, by rw [← add_field _ _ 4 (by omega)]; exact hc 4 _ rfl, by rw [← add_field _ _ 5 (by omega)]; exact hc 5 _ rfl⟩

end Go.Proofs.YtmnpgcmpaiejaaaDoor.PTok
