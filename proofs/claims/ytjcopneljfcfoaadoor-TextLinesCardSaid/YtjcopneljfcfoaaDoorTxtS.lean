/- Plain laws: TextConfig, TextParts, TextSame as the printer tells them answer true of every shape. -/
import Derived.Test.YtjcopneljfcfoaaDoorTxtG
import Derived.Test.YtjcopneljfcfoaaDoorCfg
namespace Go.Proofs.YtjcopneljfcfoaaDoor.TxtP
open Go.RowKit Go.Proofs.YtjcopneljfcfoaaDoor.PRaw Go.Proofs.YtjcopneljfcfoaaDoorW.PrintWords Go.Proofs.YtjcopneljfcfoaaDoorW.PrintLast Go.Proofs.YtjcopneljfcfoaaDoorW.PrintMore
open Go.Proofs.YtjcopneljfcfoaaDoor.Cfg (Shape cmaps crouts config_at mapsFrom clausesOf ruleC rout lnks lnksFrom netsOf statsOf nm mname mpd okU rule_fits num_le okB num lnk make isL)
set_option linter.unusedVariables false
set_option linter.unusedSimpArgs false
set_option maxRecDepth 100000 in
theorem awake_ok7' : maquettelaw07_awake.f 40 = some true := by decide +kernel
theorem awake7' {k : Nat} (h : 40 ≤ k) : maquettelaw07_awake.f k = some true := leO_up (fun k => maquettelaw07_awake.mono k) h awake_ok7'
theorem nm_size (k : Nat) : (nm k).size = 2 := rfl
theorem mname_size (k : Nat) : (mname k).size = 2 := rfl
theorem mpd_size (q n : Nat) : (mpd q n).size ≤ 2 := by
  unfold mpd
  split
  · show 0 ≤ 2; omega
  · split
    · show 0 ≤ 2; omega
    · exact Nat.le_of_eq (mname_size _)
theorem maps_ok : ∀ (l : List (List Cfg.SU)) (i : Nat), (∀ rs ∈ l, ∀ r ∈ rs, okU r) → (∀ m ∈ mapsFrom i l, okM m) ∧ wM (mapsFrom i l) ≤ (4 - i) * 3022
  | [], i, _ => ⟨fun m hm => (by cases hm), (by simp [mapsFrom, wM])⟩
  | rs :: l, i, h => by
    have ih := maps_ok l (i + 1) (fun r hr => h r (.tail _ hr))
    unfold mapsFrom
    by_cases h4 : i < 4
    · rw [if_pos h4]
      refine ⟨fun m hm => ?_, ?_⟩
      · rcases List.mem_cons.1 hm with rfl | hm
        · intro c hc
          unfold clausesOf at hc
          obtain ⟨r, hr, rfl⟩ := List.mem_map.1 hc
          have f := rule_fits r (h rs (.head _) r (List.mem_of_mem_take hr))
          refine ⟨⟨by omega, by omega⟩, by omega, by omega, by omega, by omega, by omega, by omega⟩
        · exact ih.1 m hm
      · have hl : (clausesOf rs).length ≤ 5 := by unfold clausesOf; rw [List.length_map, List.length_take]; omega
        have h2 := ih.2
        have e : 4 - i = (4 - (i + 1)) + 1 := by omega
        rw [e, Nat.add_mul, Nat.one_mul]
        show (mname i).size + 20 + 600 * (clausesOf rs).length + wM (mapsFrom (i + 1) l) ≤ _
        rw [mname_size]
        have h3 : 600 * (clausesOf rs).length ≤ 600 * 5 := Nat.mul_le_mul_left _ hl
        generalize (4 - (i + 1)) * 3022 = z at h2 ⊢
        omega
    · rw [if_neg h4]
      refine ⟨ih.1, ?_⟩
      have := ih.2
      rw [show 4 - (i + 1) = 0 by omega, Nat.zero_mul] at this
      exact Nat.le_trans this (Nat.zero_le _)
theorem wL_le {B : Nat} : ∀ l : List SL, (∀ x ∈ l, x.f0.size + x.f2.size + x.f3.size + 100 ≤ B) → wL l ≤ B * l.length
  | [], _ => by simp [wL]
  | x :: l, h => by
    have h1 := h x (.head _)
    have h2 := wL_le l (fun y hy => h y (.tail _ hy))
    simp only [wL, List.length_cons, Nat.mul_add]
    omega
theorem wR_le {B : Nat} : ∀ l : List SR, (∀ r ∈ l, r.f0.size + 20 + 300 * r.f1.length + wL r.f2 + wS r.f3 ≤ B) → wR l ≤ B * l.length
  | [], _ => by simp [wR]
  | x :: l, h => by
    have h1 := h x (.head _)
    have h2 := wR_le l (fun y hy => h y (.tail _ hy))
    simp only [wR, List.length_cons, Nat.mul_add]
    omega
theorem lnks_len (ls ns : List Int) (q n k : Nat) : (lnks ls ns q n k).length ≤ n := by
  unfold lnks lnksFrom
  rw [List.length_map]
  have := List.length_filter_le (isL ls n k) (List.range' 0 n)
  rwa [List.length_range'] at this
theorem rout_ok {ls : List Int} {q : Nat} {ns nt ws : List Int} (hls : okB ls) (hns : okB ns) (hnt : okB nt) (hws : okB ws) {n : Nat} (hn : n < 8) (k : Nat) : okR (rout ls q ns nt ws n k) ∧ (rout ls q ns nt ws n k).f0.size + 20 + 300 * (rout ls q ns nt ws n k).f1.length + wL (rout ls q ns nt ws n k).f2 + wS (rout ls q ns nt ws n k).f3 ≤ 5000 := by
  have hm : ∀ x ∈ lnks ls ns q n k, okL x ∧ x.f0.size = 2 ∧ x.f0.size + x.f2.size + x.f3.size + 100 ≤ 106 := by
    intro x hx
    unfold lnks lnksFrom at hx
    obtain ⟨j, hj, rfl⟩ := List.mem_map.1 hx
    have a := mpd_size q (num ns (k * n + j))
    have b := mpd_size q (num ns (k * n + j) / 12)
    have c := num_le hls (min j k * n + max j k)
    refine ⟨⟨?_, ?_⟩, nm_size j, ?_⟩
    · show -999999 ≤ ((1 + num ls (min j k * n + max j k) / 3 % 3 : Nat) : Int)
      omega
    · show ((1 + num ls (min j k * n + max j k) / 3 % 3 : Nat) : Int) < _
      omega
    · show (nm j).size + (mpd q (num ns (k * n + j))).size + (mpd q (num ns (k * n + j) / 12)).size + 100 ≤ 106
      rw [nm_size]
      omega
  have hl := wL_le (lnks ls ns q n k) (fun x hx => (hm x hx).2.2)
  have hll := lnks_len ls ns q n k
  have hnets : (∀ p ∈ netsOf nt k, okP p) ∧ (netsOf nt k).length ≤ 1 := by
    unfold netsOf
    split
    · have := (Cfg.make_at (num_le hnt k)).2.2
      exact ⟨fun p hp => by rw [List.mem_singleton.1 hp]; exact ⟨by omega, by omega⟩, by simp⟩
    · exact ⟨fun p hp => (by cases hp), by simp⟩
  have hst : (∀ s ∈ statsOf ws (lnks ls ns q n k) k, okP s.f0) ∧ wS (statsOf ws (lnks ls ns q n k) k) ≤ 302 := by
    unfold statsOf
    split
    · rename_i h
      have := (Cfg.make_at (num_le hws k)).2.2
      refine ⟨fun p hp => by rw [List.mem_singleton.1 hp]; exact ⟨by show _ ≤ (make (num ws k)).f1; omega, by show (make (num ws k)).f1 < _; omega⟩, ?_⟩
      have hlt := Nat.mod_lt (num ws k / 8) h.2
      have e : (lnks ls ns q n k)[num ws k / 8 % (lnks ls ns q n k).length]? = some (lnks ls ns q n k)[num ws k / 8 % (lnks ls ns q n k).length] := List.getElem?_eq_getElem hlt
      have := (hm _ (List.mem_of_getElem? e)).2.1
      simp only [wS, List.getD, e, Option.getD_some]
      omega
    · exact ⟨fun p hp => (by cases hp), by simp [wS]⟩
  refine ⟨⟨hnets.1, fun l hl => (hm l hl).1, hst.1⟩, ?_⟩
  show (nm k).size + 20 + 300 * (netsOf nt k).length + wL (lnks ls ns q n k) + wS (statsOf ws (lnks ls ns q n k) k) ≤ 5000
  rw [nm_size]
  have h1 := hnets.2
  have h2 := hst.2
  have h3 : 106 * (lnks ls ns q n k).length ≤ 106 * 7 := Nat.mul_le_mul_left _ (by omega)
  omega
theorem shape_ok {a0 : Int} {ls : List Int} {mp : List (List Cfg.SU)} {ns nt ws : List Int} (h : Shape a0 ls mp ns nt ws) : (∀ m ∈ cmaps mp, okM m) ∧ (∀ r ∈ crouts a0 ls mp ns nt ws, okR r) ∧ wM (cmaps mp) ≤ 20000 ∧ wR (crouts a0 ls mp ns nt ws) ≤ 40000 := by
  have hm := maps_ok mp 0 h.m
  have hn : (a0 % 8).toNat < 8 := by omega
  refine ⟨hm.1, ?_, by have := hm.2; unfold cmaps; omega, ?_⟩
  · intro r hr
    unfold crouts at hr
    obtain ⟨k, hk, rfl⟩ := List.mem_map.1 hr
    exact (rout_ok h.l h.s h.t h.w hn k).1
  · have := wR_le (B := 5000) (crouts a0 ls mp ns nt ws) (by
      intro r hr
      unfold crouts at hr
      obtain ⟨k, hk, rfl⟩ := List.mem_map.1 hr
      exact (rout_ok h.l h.s h.t h.w hn k).2)
    have hl : (crouts a0 ls mp ns nt ws).length ≤ 7 := by unfold crouts; rw [List.length_map, List.length_range]; omega
    have h3 : 5000 * (crouts a0 ls mp ns nt ws).length ≤ 5000 * 7 := Nat.mul_le_mul_left _ hl
    omega
end Go.Proofs.YtjcopneljfcfoaaDoor.TxtP
