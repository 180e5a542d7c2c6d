/- Plain law: configurations that numbers make: their classes, their networks. -/
import Derived.Test.YtncebbpnmpgjiaaCfg
import Derived.Test.YtncebbpnmpgjiaaPMmx2
import Derived.Test.YtncebbpnmpgjiaaJ2
namespace Go.Proofs.Ytncebbpnmpgjiaa.LiC
open Go.RowKit Go.Proofs.Ytncebbpnmpgjiaa.PMm Go.Proofs.YtncebbpnmpgjiaaW.PrintWords Go.Proofs.YtncebbpnmpgjiaaW.PrintLast Go.Proofs.YtncebbpnmpgjiaaW.PrintMore Go.Proofs.Ytncebbpnmpgjiaa.Low
open Go.Proofs.Ytncebbpnmpgjiaa.Mq (Pf Rt Cl Ed Mp Lk)
set_option linter.unusedVariables false
set_option linter.unusedSimpArgs false
set_option linter.all false
abbrev P2 := S36
abbrev RT := S53
abbrev MP := S57
abbrev ED := S46
theorem up {α : Type} {F : Nat → Option α} (h : ∀ k, LeO (F k) (F (k + 1))) {k k' : Nat} (hk : k ≤ k') {r : α} (e : F k = some r) : F k' = some r := by
  induction hk with
  | refl => exact e
  | step _ ih => exact h _ _ ih
theorem w1 {i : Nat} (h : i < 9223372036854775807) : wrap64 ((i : Int) + 1) = ((i + 1 : Nat) : Int) := by unfold wrap64; omega
/-! The networks that numbers make. -/
def cls (R : List RT) : List P2 := (classesB (R.map toRt)).map frPf
/-- What may be asked of a configuration. -/
structure Fit (M : List MP) (R : List RT) : Prop where
  l : R.length ≤ 1000
  r : ∀ r ∈ R, r.f0.size ≤ 1000 ∧ r.f1.length ≤ 1000 ∧ r.f2.length ≤ 1000 ∧ (∀ l ∈ r.f2, l.f0.size ≤ 1000) ∧ ∀ y ∈ r.f3, y.f1.size ≤ 1000
  m : ∀ m ∈ M, m.f1.length ≤ 1000
/-- The network of a configuration, as lower.Net tells it. -/
def netO (R : List RT) (a b : Int) : List Bool := (R.map toRt).map (orgB ⟨a, b⟩)
def netS (R : List RT) (a b : Int) : List Int := (R.map toRt).map (wayB ⟨a, b⟩ (R.map toRt))
def netE (M : List MP) (R : List RT) (a b : Int) : List (List ED) := ((R.map toRt).map (edgesB ⟨a, b⟩ (M.map toMp) (R.map toRt))).map fun es => es.map frEd
theorem maxLen_1000 : 1000 ≤ maxLen := by unfold maxLen; decide
theorem net_at (M : List MP) (R : List RT) (hF : Fit M R) (a b : Int) : lower_Net.f M R a b = some (netO R a b, netS R a b, netE M R a b) := by
  have h0 := maxLen_1000
  have hok : lower_Net.ok M R = true := by
    unfold lower_Net.ok
    simp only [Bool.and_eq_true, decide_eq_true_eq, List.all_eq_true]
    refine ⟨⟨by have := hF.l; omega, fun r hr => ?_⟩, fun m hm => by have := hF.m m hm; omega⟩
    obtain ⟨h1, h2, h3, h4, h5⟩ := hF.r r hr
    exact ⟨⟨⟨by omega, by omega⟩, fun l hl => by have := h4 l hl; omega⟩, fun y hy => by have := h5 y hy; omega⟩
  unfold lower_Net.f
  rw [if_pos hok]
  rfl
theorem classes_at (M : List MP) (R : List RT) (hF : Fit M R) : lower_Classes.f M R = some (cls R) := by
  have hs : ∀ (X : List RT), (∀ r ∈ X, r.f1.length ≤ 1000) → (X.map fun r => r.f1.length).sum ≤ X.length * 1000 := by
    intro X
    induction X with
    | nil => intro _; exact Nat.le_refl _
    | cons r X ih =>
      intro h
      have h1 := ih fun x hx => h x (.tail _ hx)
      have h2 := h r (.head _)
      simp only [List.map_cons, List.sum_cons, List.length_cons]
      omega
  have h1 := hs R fun r hr => (hF.r r hr).2.1
  have h2 := hF.l
  unfold lower_Classes.f
  rw [if_pos (Nat.le_trans h1 (by omega))]
  rfl
theorem config_fit {a0 : Int} {ls : List Int} {mp : List (List Cfg.SU)} {ns nt ws : List Int} (h : Cfg.Shape a0 ls mp ns nt ws) : Fit (Cfg.cmaps mp) (Cfg.crouts a0 ls mp ns nt ws) := by
  have hn : (a0 % 8).toNat < 8 := by omega
  have hnm : ∀ k, (Cfg.nm k).size ≤ 1000 := fun k => by show (2 : Nat) ≤ 1000; omega
  have hL : ∀ k, (Cfg.lnks ls ns mp.length (a0 % 8).toNat k).length ≤ 1000 ∧ ∀ l ∈ Cfg.lnks ls ns mp.length (a0 % 8).toNat k, l.f0.size ≤ 1000 := by
    intro k
    unfold Cfg.lnks Cfg.lnksFrom
    refine ⟨?_, ?_⟩
    · rw [List.length_map]
      refine Nat.le_trans (List.length_filter_le _ _) ?_
      rw [List.length_range']
      omega
    · intro l hl
      obtain ⟨j, -, rfl⟩ := List.mem_map.1 hl
      exact hnm j
  refine ⟨?_, ?_, ?_⟩
  · unfold Cfg.crouts
    rw [List.length_map, List.length_range]
    omega
  · intro r hr
    unfold Cfg.crouts at hr
    obtain ⟨k, -, rfl⟩ := List.mem_map.1 hr
    refine ⟨hnm k, ?_, (hL k).1, (hL k).2, ?_⟩
    · show (Cfg.netsOf nt k).length ≤ 1000
      unfold Cfg.netsOf
      split <;> simp
    · intro y hy
      have hy : y ∈ Cfg.statsOf ws (Cfg.lnks ls ns mp.length (a0 % 8).toNat k) k := hy
      unfold Cfg.statsOf at hy
      split at hy
      · obtain rfl := List.mem_singleton.1 hy
        show ((Cfg.lnks ls ns mp.length (a0 % 8).toNat k).getD _ _).f0.size ≤ 1000
        rw [List.getD_eq_getElem?_getD]
        cases e : (Cfg.lnks ls ns mp.length (a0 % 8).toNat k)[Cfg.num ws k / 8 % (Cfg.lnks ls ns mp.length (a0 % 8).toNat k).length]? with
        | none => show (0 : Nat) ≤ 1000; omega
        | some l => exact (hL k).2 l (List.mem_of_getElem? e)
      · cases hy
  · have hm : ∀ (X : List (List Cfg.SU)) i, ∀ m ∈ Cfg.mapsFrom i X, m.f1.length ≤ 1000 := by
      intro X
      induction X with
      | nil => intro i m hm; cases hm
      | cons x X ih =>
        intro i m hm
        unfold Cfg.mapsFrom at hm
        split at hm
        · rcases List.mem_cons.1 hm with rfl | hm
          · show (Cfg.clausesOf x).length ≤ 1000
            unfold Cfg.clausesOf
            rw [List.length_map, List.length_take]
            omega
          · exact ih _ m hm
        · exact ih _ m hm
    exact hm mp 0
end Go.Proofs.Ytncebbpnmpgjiaa.LiC
