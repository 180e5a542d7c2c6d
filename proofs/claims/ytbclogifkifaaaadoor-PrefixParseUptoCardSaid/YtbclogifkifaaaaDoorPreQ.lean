/- Plain law: PrefixParse as the printer tells it answers true. -/
import Derived.Test.YtbclogifkifaaaaDoorPreP
import Derived.Test.YtbclogifkifaaaaDoorPPrex17
namespace Go.Proofs.YtbclogifkifaaaaDoor.PreQ
open Go.RowKit Go.Proofs.YtbclogifkifaaaaDoor.PPre Go.Proofs.YtbclogifkifaaaaDoorW.PrintWords Go.Proofs.YtbclogifkifaaaaDoorW.PrintLast Go.Proofs.YtbclogifkifaaaaDoorW.PrintMore Go.Proofs.YtbclogifkifaaaaDoor.PfxL Go.Proofs.YtbclogifkifaaaaDoor.PreT Go.Proofs.YtbclogifkifaaaaDoor.PreP
set_option linter.unusedVariables false
set_option linter.unusedSimpArgs false
def mkT (n : Nat) : Bool := match maquettelaw05_Make.f 60 (n : Int) with
  | some p => match maquettelaw05_text.f 60 p.1 p.2 with
    | some t => decide (1 ≤ t.size ∧ t.size ≤ 100)
    | none => false
  | none => false
set_option maxRecDepth 100000 in
theorem mk_all : ((List.range 256).all mkT) = true := by decide +kernel
theorem mk_at {n : Int} (h : 0 ≤ n ∧ n ≤ 255) : ∃ a b t, maquettelaw05_Make.f 60 n = some (a, b) ∧ maquettelaw05_text.f 60 a b = some t ∧ 1 ≤ t.size ∧ t.size ≤ 100 := by
  have q := List.all_eq_true.1 mk_all n.toNat (List.mem_range.2 (by omega))
  unfold mkT at q
  rw [Int.toNat_of_nonneg h.1] at q
  cases e : maquettelaw05_Make.f 60 n with
  | none => rw [e] at q; cases q
  | some p =>
    rw [e] at q
    dsimp only at q
    cases e2 : maquettelaw05_text.f 60 p.1 p.2 with
    | none => rw [e2] at q; cases q
    | some t =>
      rw [e2] at q
      exact ⟨p.1, p.2, t, rfl, e2, of_decide_eq_true q⟩
theorem round (k : Nat) (hk : 50 ≤ k) (y : List ByteArray) (i : Nat) (x : ByteArray) (hx : y[i]? = some x) (hs : x.size < 4294967281) (hl : y.length < 100) : maquettelaw05_PrefixParse.l0 (k + 1) y (y.length : Int) (i : Int) = maquettelaw05_PrefixParse.l0 k y (y.length : Int) ((i + 1 : Nat) : Int) := by
  have hi := (List.getElem?_eq_some_iff.1 hx).1
  have e1 : wrap64 ((i : Int) + 1) = ((i + 1 : Nat) : Int) := by unfold wrap64; omega
  have e2 : rdOf ByteArray.empty y (i : Int) = x := by
    unfold rdOf
    rw [List.getD_eq_getElem?_getD, Int.toNat_natCast, hx]
    rfl
  obtain ⟨a, b, ok, hp, hT⟩ := parse_sound x hs
  rw [maquettelaw05_PrefixParse.l0, if_pos (by omega), if_pos (by omega), if_pos (by omega), e2, hp k (by omega), Option.bind_some]
  cases ok with
  | true =>
    obtain ⟨hM, ht⟩ := hT.yes rfl
    rw [if_pos rfl, PreM.lmay hT.lo hT.hi k (by omega), Option.bind_some, decide_eq_true hM, if_pos rfl, ht k (by omega), Option.bind_some, if_pos rfl, e1]
  | false =>
    obtain ⟨rfl, rfl⟩ := hT.no rfl
    rw [if_neg (by decide), if_neg (by decide), e1]
theorem nums_size (xs : List Int) : (strOfNums xs).size = xs.length := by
  unfold strOfNums
  show Array.size _ = _
  simp
theorem lparse (s : ByteArray) (hs : s.size < 4294967281) (n a w : Int) (hn : 0 ≤ n ∧ n ≤ 255) (ha : 0 ≤ a ∧ a ≤ 255) (hw : 0 ≤ w ∧ w ≤ 255) : maquettelaw05_PrefixParse.f 60 s n a w = some true := by
  obtain ⟨p, q, t, e1, e2, t1, t2⟩ := mk_at hn
  have ew : wrap64 a = a := by unfold wrap64; omega
  have m0 : Int.tmod w 14 = w % 14 := Int.tmod_eq_emod_of_nonneg hw.1
  have m1 : Int.tmod a (t.size : Int) = a % (t.size : Int) := Int.tmod_eq_emod_of_nonneg ha.1
  have m2 := Int.emod_nonneg a (show (t.size : Int) ≠ 0 by omega)
  have m3 := Int.emod_lt_of_pos a (show (0 : Int) < (t.size : Int) by omega)
  unfold maquettelaw05_PrefixParse.f
  rw [PreL.awake_at (by omega), Option.bind_some, if_pos rfl, e1, Option.bind_some, e2, Option.bind_some, if_neg (by omega), m0, if_pos (by omega), if_pos (by omega), ew, m1, if_pos m2, if_pos m3, Option.bind_some]
  generalize hx : strOfNums _ = x
  have hxs : x.size < 4294967281 := by
    rw [← hx, nums_size, List.length_set, bytesOf_length]
    omega
  have r0 := round 59 (by omega) [s, x] 0 s rfl hs (by simp)
  have r1 := round 58 (by omega) [s, x] 1 x rfl hxs (by simp)
  refine r0.trans (r1.trans ?_)
  rw [maquettelaw05_PrefixParse.l0, if_neg (by simp)]
end Go.Proofs.YtbclogifkifaaaaDoor.PreQ
