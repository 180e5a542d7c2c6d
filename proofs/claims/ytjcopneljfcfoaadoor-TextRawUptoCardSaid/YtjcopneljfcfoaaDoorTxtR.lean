/- Plain law: TextRaw as the printer tells it answers true of all configurations that are not too large. -/
import Derived.Test.YtjcopneljfcfoaaDoorTxtG
import Derived.Test.YtjcopneljfcfoaaDoorPRawx18
namespace Go.Proofs.YtjcopneljfcfoaaDoor.TxtP
open Go.RowKit Go.Proofs.YtjcopneljfcfoaaDoor.PRaw Go.Proofs.YtjcopneljfcfoaaDoorW.PrintWords Go.Proofs.YtjcopneljfcfoaaDoorW.PrintLast Go.Proofs.YtjcopneljfcfoaaDoorW.PrintMore
set_option linter.unusedVariables false
set_option linter.unusedSimpArgs false
set_option maxRecDepth 100000 in
theorem awake_ok7 : maquettelaw07_awake.f 40 = some true := by decide +kernel
theorem awake7 {k : Nat} (h : 40 ≤ k) : maquettelaw07_awake.f k = some true := leO_up (fun k => maquettelaw07_awake.mono k) h awake_ok7
theorem rup0 {k k' : Nat} (hk : k ≤ k') {r : Bool} {a b c d e} : maquettelaw07_TextRaw.l0 k a b c d e = some r → maquettelaw07_TextRaw.l0 k' a b c d e = some r := leO_up (F := fun k => maquettelaw07_TextRaw.l0 k a b c d e) (fun k => (maquettelaw07_TextRaw.mono_l k).1 _ _ _ _ _) hk
theorem take_step {α : Type} {l : List α} {i : Nat} {p : α} {P : α → Prop} (hp : l[i]? = some p) (h : ∀ x ∈ l.take i, P x) (h2 : P p) : ∀ x ∈ l.take (i + 1), P x := by
  intro x hx
  rw [List.take_add_one, hp] at hx
  rcases List.mem_append.1 hx with hx | hx
  · exact h x hx
  · simp at hx; subst hx; exact h2
theorem r3 (ls : List SL) (hn : ls.length < 4611686018427387904) (xs : List SR) (n m : Int) (ms : List SM) (rs : List SR) (hk : (∀ l ∈ ls, -999999 ≤ l.f1) → ∃ k, maquettelaw07_TextRaw.l2 k xs n (wrap64 (m + 1)) ms rs = some true) : ∀ d i, i + d = ls.length → (∀ l ∈ ls.take i, -999999 ≤ l.f1) →
    ∃ k, maquettelaw07_TextRaw.l3 k xs n m ls (ls.length : Int) (i : Int) ms rs = some true := by
  intro d
  induction d with
  | zero =>
    intro i hi hb
    obtain rfl : i = ls.length := by omega
    rw [List.take_length] at hb
    obtain ⟨k, hk⟩ := hk hb
    refine ⟨k + 1, ?_⟩
    rw [maquettelaw07_TextRaw.l3, if_neg (by omega)]
    exact hk
  | succ d ih =>
    intro i hi hb
    obtain ⟨p, hp, hd⟩ := drop_at (l := ls) (i := i) (by omega)
    by_cases hq : p.f1 < -999999
    · refine ⟨1, ?_⟩
      rw [maquettelaw07_TextRaw.l3, if_pos (by omega), if_pos (by omega), if_pos (by omega)]
      simp only [rd_T48, getD_at hp]
      rw [if_pos hq]
    · obtain ⟨k, hk⟩ := ih (i + 1) (by omega) (take_step hp hb (by omega))
      refine ⟨k + 1, ?_⟩
      rw [maquettelaw07_TextRaw.l3, if_pos (by omega), if_pos (by omega), if_pos (by omega)]
      simp only [rd_T48, getD_at hp]
      rw [if_neg hq, w1 (by omega)]
      exact hk
theorem r2 (rs : List SR) (hn : rs.length < 4611686018427387904) (hl : ∀ r ∈ rs, r.f2.length < 4611686018427387904) (ms : List SM) (hk : (∀ r ∈ rs, ∀ l ∈ r.f2, -999999 ≤ l.f1) → ∃ k t, text_Config.f k ms rs = some t ∧ maquettelaw07_Text.f k ms rs = some t) : ∀ d i, i + d = rs.length → (∀ r ∈ rs.take i, ∀ l ∈ r.f2, -999999 ≤ l.f1) →
    ∃ k, maquettelaw07_TextRaw.l2 k rs (rs.length : Int) (i : Int) ms rs = some true := by
  intro d
  induction d with
  | zero =>
    intro i hi hb
    obtain rfl : i = rs.length := by omega
    rw [List.take_length] at hb
    obtain ⟨k, t, h1, h2⟩ := hk hb
    refine ⟨k + 1, ?_⟩
    rw [maquettelaw07_TextRaw.l2, if_neg (by omega), h1, Option.bind_some, h2, Option.bind_some]
    simp
  | succ d ih =>
    intro i hi hb
    obtain ⟨p, hp, hd⟩ := drop_at (l := rs) (i := i) (by omega)
    obtain ⟨k, hk⟩ := r3 p.f2 (hl p (List.mem_of_getElem? hp)) rs (rs.length : Int) (i : Int) ms rs (fun h => by
      rw [w1 (by omega)]
      exact ih (i + 1) (by omega) (take_step hp hb h)) p.f2.length 0 (by omega) (by simp)
    rw [show ((0 : Nat) : Int) = 0 from rfl] at hk
    refine ⟨k + 1, ?_⟩
    rw [maquettelaw07_TextRaw.l2, if_pos (by omega), if_pos (by omega), if_pos (by omega)]
    simp only [rd_T46, getD_at hp]
    exact hk
theorem r1 (cs : List SC) (hn : cs.length < 4611686018427387904) (xs : List SM) (n m : Int) (ms : List SM) (rs : List SR) (hk : (∀ l ∈ cs, -999999 ≤ l.f7 ∧ -999999 ≤ l.f8) → ∃ k, maquettelaw07_TextRaw.l0 k xs n (wrap64 (m + 1)) ms rs = some true) : ∀ d i, i + d = cs.length → (∀ l ∈ cs.take i, -999999 ≤ l.f7 ∧ -999999 ≤ l.f8) →
    ∃ k, maquettelaw07_TextRaw.l1 k xs n m cs (cs.length : Int) (i : Int) ms rs = some true := by
  intro d
  induction d with
  | zero =>
    intro i hi hb
    obtain rfl : i = cs.length := by omega
    rw [List.take_length] at hb
    obtain ⟨k, hk⟩ := hk hb
    refine ⟨k + 1, ?_⟩
    rw [maquettelaw07_TextRaw.l1, if_neg (by omega)]
    exact hk
  | succ d ih =>
    intro i hi hb
    obtain ⟨p, hp, hd⟩ := drop_at (l := cs) (i := i) (by omega)
    by_cases hq : p.f7 < -999999
    · refine ⟨1, ?_⟩
      rw [maquettelaw07_TextRaw.l1, if_pos (by omega), if_pos (by omega), if_pos (by omega)]
      simp only [rd_T41, getD_at hp]
      rw [if_pos hq]
    · by_cases hq2 : p.f8 < -999999
      · refine ⟨1, ?_⟩
        rw [maquettelaw07_TextRaw.l1, if_pos (by omega), if_pos (by omega), if_pos (by omega)]
        simp only [rd_T41, getD_at hp]
        rw [if_neg hq, if_pos hq2]
      · obtain ⟨k, hk⟩ := ih (i + 1) (by omega) (take_step hp hb (by omega))
        refine ⟨k + 1, ?_⟩
        rw [maquettelaw07_TextRaw.l1, if_pos (by omega), if_pos (by omega), if_pos (by omega)]
        simp only [rd_T41, getD_at hp]
        rw [if_neg hq, if_neg hq2, w1 (by omega)]
        exact hk
theorem r0 (ms : List SM) (rs : List SR) (hn : ms.length < 4611686018427387904) (hl : ∀ r ∈ ms, r.f1.length < 4611686018427387904) (hn' : rs.length < 4611686018427387904) (hl' : ∀ r ∈ rs, r.f2.length < 4611686018427387904)
    (hk : (∀ m ∈ ms, ∀ l ∈ m.f1, -999999 ≤ l.f7 ∧ -999999 ≤ l.f8) → (∀ r ∈ rs, ∀ l ∈ r.f2, -999999 ≤ l.f1) → ∃ k t, text_Config.f k ms rs = some t ∧ maquettelaw07_Text.f k ms rs = some t) : ∀ d i, i + d = ms.length → (∀ r ∈ ms.take i, ∀ l ∈ r.f1, -999999 ≤ l.f7 ∧ -999999 ≤ l.f8) →
    ∃ k, maquettelaw07_TextRaw.l0 k ms (ms.length : Int) (i : Int) ms rs = some true := by
  intro d
  induction d with
  | zero =>
    intro i hi hb
    obtain rfl : i = ms.length := by omega
    rw [List.take_length] at hb
    obtain ⟨k, hk⟩ := r2 rs hn' hl' ms (hk hb) rs.length 0 (by omega) (by simp)
    rw [show ((0 : Nat) : Int) = 0 from rfl] at hk
    refine ⟨k + 1, ?_⟩
    rw [maquettelaw07_TextRaw.l0, if_neg (by omega)]
    exact hk
  | succ d ih =>
    intro i hi hb
    obtain ⟨p, hp, hd⟩ := drop_at (l := ms) (i := i) (by omega)
    obtain ⟨k, hk⟩ := r1 p.f1 (hl p (List.mem_of_getElem? hp)) ms (ms.length : Int) (i : Int) ms rs (fun h => by
      rw [w1 (by omega)]
      exact ih (i + 1) (by omega) (take_step hp hb h)) p.f1.length 0 (by omega) (by simp)
    rw [show ((0 : Nat) : Int) = 0 from rfl] at hk
    refine ⟨k + 1, ?_⟩
    rw [maquettelaw07_TextRaw.l0, if_pos (by omega), if_pos (by omega), if_pos (by omega)]
    simp only [rd_T36, getD_at hp]
    exact hk
def kC (c : SC) : Prop := okP c.f1 ∧ (0 ≤ c.f2 ∧ c.f2 ≤ 255) ∧ (0 ≤ c.f3 ∧ c.f3 ≤ 255) ∧ (0 ≤ c.f5 ∧ c.f5 ≤ 255) ∧ (0 ≤ c.f6 ∧ c.f6 ≤ 255) ∧ c.f7 < 9223372036854775808 ∧ c.f8 < 9223372036854775808
def kR (r : SR) : Prop := (∀ p ∈ r.f1, okP p) ∧ (∀ l ∈ r.f2, l.f1 < 9223372036854775808) ∧ (∀ s ∈ r.f3, okP s.f0)
theorem lraw (ms : List SM) (rs : List SR) (hm : ∀ m ∈ ms, ∀ c ∈ m.f1, kC c) (hr : ∀ r ∈ rs, kR r) (hw : wM ms + wR rs ≤ 100000000000000) : ∃ k, maquettelaw07_TextRaw.f k ms rs = some true := by
  have M1 : ∀ l : List SM, l.length ≤ wM l ∧ ∀ m ∈ l, m.f1.length ≤ wM l := fun l => by
    induction l with
    | nil => simp
    | cons x l ih =>
      simp only [wM, List.length_cons]
      refine ⟨by omega, fun m hm => ?_⟩
      rcases List.mem_cons.1 hm with rfl | hm
      · omega
      · have := ih.2 m hm; omega
  have L1 : ∀ l : List SL, l.length ≤ wL l := fun l => by induction l with | nil => simp | cons x l ih => simp only [wL, List.length_cons]; omega
  have M2 : ∀ l : List SR, l.length ≤ wR l ∧ ∀ m ∈ l, m.f2.length ≤ wR l := fun l => by
    induction l with
    | nil => simp
    | cons x l ih =>
      simp only [wR, List.length_cons]
      refine ⟨by omega, fun m hm => ?_⟩
      rcases List.mem_cons.1 hm with rfl | hm
      · have := L1 m.f2; omega
      · have := ih.2 m hm; omega
  have m1 := M1 ms
  have m2 := M2 rs
  obtain ⟨k, hk⟩ := r0 ms rs (by omega) (fun m h => by have := m1.2 m h; omega) (by omega) (fun m h => by have := m2.2 m h; omega) (fun h1 h2 => by
    obtain ⟨K, t, e1, e2⟩ := config_eq ms rs (fun m h c hc => by
      obtain ⟨q1, q2, q3, q4, q5, q6, q7⟩ := hm m h c hc
      have := h1 m h c hc
      exact ⟨q1, q2, q3, q4, q5, ⟨this.1, q6⟩, this.2, q7⟩) (fun r h => by
      obtain ⟨q1, q2, q3⟩ := hr r h
      exact ⟨q1, fun l hl => ⟨h2 r h l hl, q2 l hl⟩, q3⟩) hw
    exact ⟨K, t, e1 K (Nat.le_refl _), e2 K (Nat.le_refl _)⟩) ms.length 0 (by omega) (by simp)
  rw [show ((0 : Nat) : Int) = 0 from rfl] at hk
  refine ⟨k + 40, ?_⟩
  unfold maquettelaw07_TextRaw.f
  rw [awake7 (by omega), Option.bind_some, if_pos rfl]
  exact rup0 (by omega) hk
theorem wL_eq (l : List SL) : wL l = (l.map fun l => l.f0.size + l.f2.size + l.f3.size + 100).sum := by induction l with | nil => rfl | cons x l ih => simp [wL, ih]
theorem wS_eq (l : List SS) : wS l = (l.map fun s => s.f1.size + 300).sum := by induction l with | nil => rfl | cons x l ih => simp [wS, ih]
theorem wR_eq (l : List SR) : wR l = (l.map fun r => r.f0.size + 20 + 300 * r.f1.length + wL r.f2 + wS r.f3).sum := by induction l with | nil => rfl | cons x l ih => simp [wR, ih]
theorem wM_eq (l : List SM) : wM l = (l.map fun m => m.f0.size + 20 + 600 * m.f1.length).sum := by induction l with | nil => rfl | cons x l ih => simp [wM, ih]
end Go.Proofs.YtjcopneljfcfoaaDoor.TxtP
