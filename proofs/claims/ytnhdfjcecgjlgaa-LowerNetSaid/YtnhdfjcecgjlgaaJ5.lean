/- Texts of this work, joined: PNtx13, PNtx14, LiC. -/
import Derived.Test.YtnhdfjcecgjlgaaJ1
import Derived.Test.YtnhdfjcecgjlgaaPNtx0
import Derived.Test.YtnhdfjcecgjlgaaShort
import Derived.Test.YtnhdfjcecgjlgaaSh2
import Derived.Test.YtnhdfjcecgjlgaaCls
import Derived.Test.YtnhdfjcecgjlgaaPNtx3
import Derived.Test.YtnhdfjcecgjlgaaCfg
import Derived.Test.YtnhdfjcecgjlgaaJ4
section
namespace Go.Proofs.Ytnhdfjcecgjlgaa.PNt
open Go.RowKit Go.Proofs.YtnhdfjcecgjlgaaW.PrintWords Go.Proofs.YtnhdfjcecgjlgaaW.PrintLast Go.Proofs.YtnhdfjcecgjlgaaW.PrintMore
attribute [local go_sem] max2_int min2_int max_two min_two max_three min_three max_four min_four
set_option linter.unusedVariables false
set_option linter.unusedSimpArgs false
def frPf (y : Go.Proofs.Ytnhdfjcecgjlgaa.Mq.Pf) : S36 := ⟨y.addr, y.bits⟩
theorem M_frPf {w : World} {S : Nat → Prop} (y : Go.Proofs.Ytnhdfjcecgjlgaa.Mq.Pf) (cs : List Value) (h : Go.Proofs.Ytnhdfjcecgjlgaa.Mq.pfR.K w S y cs) (W : World) (b : Nat) (ok : Nat → Prop) : k36.M W b ok (frPf y) cs := by
  have h_ : cs = Go.Proofs.Ytnhdfjcecgjlgaa.Mq.Pf.enc y := h; subst h_; exact k36_mkM W b ok (frPf y)
end Go.Proofs.Ytnhdfjcecgjlgaa.PNt
end
section
namespace Go.Proofs.Ytnhdfjcecgjlgaa.PNt
open Go.RowKit Go.Proofs.Ytnhdfjcecgjlgaa.Short Go.Proofs.YtnhdfjcecgjlgaaW.PrintWords Go.Proofs.YtnhdfjcecgjlgaaW.PrintLast Go.Proofs.YtnhdfjcecgjlgaaW.PrintMore
attribute [local go_sem] max2_int min2_int max_two min_two max_three min_three max_four min_four
set_option linter.unusedVariables false
set_option linter.unusedSimpArgs false
def lower_Classes.f (l0_0 : List S59) (l0_1 : List S51) : Option (List S36) :=
 if (l0_1.map fun r => r.f1.length).sum ≤ 8000000000000 then some ((Go.Proofs.Ytnhdfjcecgjlgaa.Low.classesB (l0_1.map toRt)).map frPf) else none
theorem lower_Classes.calls (A0_0 : Option Addr) (c0_0 : Nat) (l0_0 : List (S59)) (A0_1 : Option Addr) (c0_1 : Nat) (l0_1 : List (S51)) (r : List (S36)) (w : World) (hr0_0 : Kd.C k59 w A0_0 l0_0.length l0_0) (hc0_0 : l0_0.length ≤ c0_0) (hr0_1 : Kd.C k51 w A0_1 l0_1.length l0_1) (hc0_1 : l0_1.length ≤ c0_1) (h : lower_Classes.f l0_0 l0_1 = some r) :
  Calls Try.prog 6 #[.agg #[.slice A0_0 l0_0.length c0_0, .slice A0_1 l0_1.length c0_1]] w fun e w' => ∃ v0_ : Value, e = .returned (v0_) ∧ Kd.R k36 36 w' w.heap.size (fun _ => True) v0_ r ∧ Below w.heap.size w w' := by
 unfold lower_Classes.f at h; split at h
 ·rename_i hok
  obtain rfl := Option.some.inj h
  have ht : Go.Proofs.Ytnhdfjcecgjlgaa.Low.tot (l0_1.map toRt) ≤ 8000000000000 := by
   have e : Go.Proofs.Ytnhdfjcecgjlgaa.Low.tot (l0_1.map toRt) = (l0_1.map fun r => r.f1.length).sum := by
    unfold Go.Proofs.Ytnhdfjcecgjlgaa.Low.tot; rw [List.map_map]; congr 1; (refine List.map_congr_left fun x _ => ?_); show (x.f1.map toPf).length = x.f1.length; rw [List.length_map]
   rw [e]; exact hok
  have hc := Go.Proofs.Ytnhdfjcecgjlgaa.Low.classes_calls (c1 := c0_1) (.slice A0_0 l0_0.length c0_0) (rows_rt hr0_1) ht; rw [List.length_map] at hc; refine hc.mono ?_; rintro e w' ⟨v, rfl, H⟩; have hR := Go.Proofs.Ytnhdfjcecgjlgaa.Bridge.R_of_own (d := k36) frPf rfl (fun w S y cs hk W b ok => M_frPf y cs hk W b ok) H; exact ⟨v, rfl, hR, H.below⟩
 ·cases h
end Go.Proofs.Ytnhdfjcecgjlgaa.PNt
end
section
namespace Go.Proofs.Ytnhdfjcecgjlgaa.LiC
open Go.RowKit Go.Proofs.Ytnhdfjcecgjlgaa.PNt Go.Proofs.YtnhdfjcecgjlgaaW.PrintWords Go.Proofs.YtnhdfjcecgjlgaaW.PrintLast Go.Proofs.YtnhdfjcecgjlgaaW.PrintMore Go.Proofs.Ytnhdfjcecgjlgaa.Low
open Go.Proofs.Ytnhdfjcecgjlgaa.Mq (Pf Rt Cl Ed Mp Lk)
set_option linter.unusedVariables false
set_option linter.unusedSimpArgs false
set_option linter.all false
abbrev P2 := S36
abbrev RT := S51
abbrev MP := S59
abbrev ED := S55
abbrev CL := S81
theorem w1 {i : Nat} (h : i < 9223372036854775807) : wrap64 ((i : Int) + 1) = ((i + 1 : Nat) : Int) := by unfold wrap64; omega
def cls (R : List RT) : List P2 := (classesB (R.map toRt)).map frPf
theorem for_len (td : Pf) : ∀ cs : List Cl, (Go.Proofs.Ytnhdfjcecgjlgaa.Cls.forB td cs).length ≤ cs.length
  | [] => Nat.le_refl _
  | c :: r => by
    have ih := for_len td r
    unfold Go.Proofs.Ytnhdfjcecgjlgaa.Cls.forB
    rw [List.length_cons]
    split
    · omega
    · rw [List.length_cons]
      split
      · exact Nat.succ_le_succ (Nat.zero_le _)
      · omega
theorem clauses_len (ms : List Mp) (N : Nat) (h : ∀ m ∈ ms, m.clauses.length ≤ N) (name : Go.Proofs.Ytnhdfjcecgjlgaa.Mq.Str) (td : Pf) : (Go.Proofs.Ytnhdfjcecgjlgaa.Low.clausesB ms name td).length ≤ N := by
  unfold Go.Proofs.Ytnhdfjcecgjlgaa.Low.clausesB
  cases e : ms.find? (fun m => m.name == name) with
  | none => exact Nat.zero_le _
  | some m => exact Nat.le_trans (for_len td _) (h m (List.mem_of_find?_eq_some e))
structure Fit (M : List MP) (R : List RT) : Prop where
  l : R.length ≤ 1000
  r : ∀ r ∈ R, r.f0.size ≤ 1000 ∧ r.f1.length ≤ 1000 ∧ r.f2.length ≤ 1000 ∧ (∀ l ∈ r.f2, l.f0.size ≤ 1000) ∧ ∀ y ∈ r.f3, y.f1.size ≤ 1000
  m : ∀ m ∈ M, m.f1.length ≤ 1000
def netO (R : List RT) (a b : Int) : List Bool := (R.map toRt).map (orgB ⟨a, b⟩)
def netS (R : List RT) (a b : Int) : List Int := (R.map toRt).map (wayB ⟨a, b⟩ (R.map toRt))
def netE (M : List MP) (R : List RT) (a b : Int) : List (List ED) := ((R.map toRt).map (edgesB ⟨a, b⟩ (M.map toMp) (R.map toRt))).map fun es => es.map frEd
theorem maxLen_1000 : 1000 ≤ maxLen := by unfold maxLen; decide
theorem net_at (M : List MP) (R : List RT) (hF : Fit M R) (a b : Int) : lower_Net.f M R a b = some (netO R a b, netS R a b, netE M R a b) := by
  have h0 := maxLen_1000
  have hok : lower_Net.ok M R = true := by
    unfold lower_Net.ok
    simp only [Bool.and_eq_true, decide_eq_true_eq, List.all_eq_true]
    refine ⟨⟨by have := hF.l; omega, fun r hr => ?_⟩, fun m hm => by have := hF.m m hm; omega⟩
    obtain ⟨h1, h2, h3, h4, h5⟩ := hF.r r hr
    exact ⟨⟨⟨by omega, by omega⟩, fun l hl => by have := h4 l hl; omega⟩, fun y hy => by have := h5 y hy; omega⟩
  unfold lower_Net.f
  rw [if_pos hok]
  rfl
theorem classes_at (M : List MP) (R : List RT) (hF : Fit M R) : lower_Classes.f M R = some (cls R) := by
  have hs : ∀ (X : List RT), (∀ r ∈ X, r.f1.length ≤ 1000) → (X.map fun r => r.f1.length).sum ≤ X.length * 1000 := by
    intro X
    induction X with
    | nil => intro _; exact Nat.le_refl _
    | cons r X ih =>
      intro h
      have h1 := ih fun x hx => h x (.tail _ hx)
      have h2 := h r (.head _)
      simp only [List.map_cons, List.sum_cons, List.length_cons]
      omega
  have h1 := hs R fun r hr => (hF.r r hr).2.1
  have h2 := hF.l
  unfold lower_Classes.f
  rw [if_pos (Nat.le_trans h1 (by omega))]
  rfl
theorem config_fit {a0 : Int} {ls : List Int} {mp : List (List Cfg.SU)} {ns nt ws : List Int} (h : Cfg.Shape a0 ls mp ns nt ws) : Fit (Cfg.cmaps mp) (Cfg.crouts a0 ls mp ns nt ws) := by
  have hn : (a0 % 8).toNat < 8 := by omega
  have hnm : ∀ k, (Cfg.nm k).size ≤ 1000 := fun k => by show (2 : Nat) ≤ 1000; omega
  have hL : ∀ k, (Cfg.lnks ls ns mp.length (a0 % 8).toNat k).length ≤ 1000 ∧ ∀ l ∈ Cfg.lnks ls ns mp.length (a0 % 8).toNat k, l.f0.size ≤ 1000 := by
    intro k
    unfold Cfg.lnks Cfg.lnksFrom
    refine ⟨?_, ?_⟩
    · rw [List.length_map]
      refine Nat.le_trans (List.length_filter_le _ _) ?_
      rw [List.length_range']
      omega
    · intro l hl
      obtain ⟨j, -, rfl⟩ := List.mem_map.1 hl
      exact hnm j
  refine ⟨?_, ?_, ?_⟩
  · unfold Cfg.crouts
    rw [List.length_map, List.length_range]
    omega
  · intro r hr
    unfold Cfg.crouts at hr
    obtain ⟨k, -, rfl⟩ := List.mem_map.1 hr
    refine ⟨hnm k, ?_, (hL k).1, (hL k).2, ?_⟩
    · show (Cfg.netsOf nt k).length ≤ 1000
      unfold Cfg.netsOf
      split <;> simp
    · intro y hy
      have hy : y ∈ Cfg.statsOf ws (Cfg.lnks ls ns mp.length (a0 % 8).toNat k) k := hy
      unfold Cfg.statsOf at hy
      split at hy
      · obtain rfl := List.mem_singleton.1 hy
        show ((Cfg.lnks ls ns mp.length (a0 % 8).toNat k).getD _ _).f0.size ≤ 1000
        rw [List.getD_eq_getElem?_getD]
        cases e : (Cfg.lnks ls ns mp.length (a0 % 8).toNat k)[Cfg.num ws k / 8 % (Cfg.lnks ls ns mp.length (a0 % 8).toNat k).length]? with
        | none => show (0 : Nat) ≤ 1000; omega
        | some l => exact (hL k).2 l (List.mem_of_getElem? e)
      · cases hy
  · have hm : ∀ (X : List (List Cfg.SU)) i, ∀ m ∈ Cfg.mapsFrom i X, m.f1.length ≤ 1000 := by
      intro X
      induction X with
      | nil => intro i m hm; cases hm
      | cons x X ih =>
        intro i m hm
        unfold Cfg.mapsFrom at hm
        split at hm
        · rcases List.mem_cons.1 hm with rfl | hm
          · show (Cfg.clausesOf x).length ≤ 1000
            unfold Cfg.clausesOf
            rw [List.length_map, List.length_take]
            omega
          · exact ih _ m hm
        · exact ih _ m hm
    exact hm mp 0
end Go.Proofs.Ytnhdfjcecgjlgaa.LiC
end
