/- Plain: what steps again and again come to. -/
import Derived.Test.YtmegjmiiiecnoaaFwP
namespace Go.Proofs.Ytmegjmiiiecnoaa.FwQ
open Go.Proofs.Ytmegjmiiiecnoaa.FwP
set_option linter.unusedVariables false
set_option linter.unusedSimpArgs false

def leB (a b : List Bool) : Prop := ∀ k : Nat, a[k]? = some true → b[k]? = some true
theorem leB_refl (a : List Bool) : leB a a := fun _ h => h
theorem leB_trans {a b c : List Bool} (h : leB a b) (h' : leB b c) : leB a c := fun k hk => h' k (h k hk)
theorem leB_cons {x y : Bool} {a b : List Bool} (h : leB (x :: a) (y :: b)) : (x = true → y = true) ∧ leB a b :=
  ⟨fun hx => by have := h 0 (by simp [hx]); simpa using this, fun k hk => by have := h (k + 1) (by simpa using hk); simpa using this⟩
theorem count_le : ∀ {a b : List Bool}, a.length = b.length → leB a b → a.count true ≤ b.count true ∧ (a.count true = b.count true → a = b)
  | [], [], _, _ => ⟨Nat.le_refl _, fun _ => rfl⟩
  | x :: a, y :: b, hl, h => by
    obtain ⟨h1, h2⟩ := leB_cons h
    obtain ⟨h3, h4⟩ := count_le (by simpa using hl) h2
    cases x <;> cases y <;> simp at h1 ⊢
    · exact ⟨h3, h4⟩
    · exact ⟨by omega, by omega⟩
    · exact ⟨h3, h4⟩
  | [], _ :: _, hl, _ => by simp at hl
  | _ :: _, [], hl, _ => by simp at hl
/-- A chain that rises stands still behind as many steps as there are places. -/
theorem chain_up {U : Nat → List Bool} {F : List Bool → List Bool} {N : Nat} (hF : ∀ n, U (n + 1) = F (U n)) (hl : ∀ n, (U n).length = N) (hle : ∀ n, leB (U n) (U (n + 1))) : ∀ m, N ≤ m → U m = U N := by
  have still : ∀ n, U (n + 1) = U n → ∀ d, U (n + d) = U n := by
    intro n hn d
    induction d with
    | zero => rfl
    | succ d ih => rw [← Nat.add_assoc, hF, ih, ← hF, hn]
  have hex : ∃ n, n ≤ N ∧ U (n + 1) = U n := by
    apply Classical.byContradiction
    intro hno
    have hne : ∀ n, n ≤ N → U (n + 1) ≠ U n := fun n hn e => hno ⟨n, hn, e⟩
    have hc : ∀ n, n ≤ N + 1 → n ≤ (U n).count true := by
      intro n
      induction n with
      | zero => intro _; omega
      | succ n ih =>
        intro hn
        have h1 := ih (by omega)
        obtain ⟨h2, h3⟩ := count_le (by rw [hl, hl]) (hle n)
        rcases Nat.lt_or_ge ((U n).count true) ((U (n + 1)).count true) with h4 | h4
        · omega
        · exact absurd (h3 (by omega)).symm (hne n (by omega))
    have h1 := hc (N + 1) (Nat.le_refl _)
    have h2 : (U (N + 1)).count true ≤ (U (N + 1)).length := List.count_le_length
    rw [hl] at h2
    omega
  obtain ⟨n, hn, e⟩ := hex
  intro m hm
  have h1 := still n e (m - n)
  have h2 := still n e (N - n)
  rw [show n + (m - n) = m by omega] at h1
  rw [show n + (N - n) = N by omega] at h2
  rw [h1, h2]
theorem leB_not {a b : List Bool} (hl : a.length = b.length) (h : leB a b) : leB (b.map not) (a.map not) := by
  intro k hk
  rw [List.getElem?_map] at hk ⊢
  rcases Nat.lt_or_ge k b.length with h1 | h1
  · have h2 : k < a.length := by omega
    rw [List.getElem?_eq_getElem h1] at hk
    rw [List.getElem?_eq_getElem h2]
    simp at hk ⊢
    have := h k
    rw [List.getElem?_eq_getElem h1, List.getElem?_eq_getElem h2] at this
    cases hx : a[k] with
    | false => rfl
    | true => have := this (by rw [hx]); rw [hk] at this; cases this
  · rw [List.getElem?_eq_none h1] at hk; cases hk
theorem map_not_not (a : List Bool) : (a.map not).map not = a := by
  rw [List.map_map, show (not ∘ not) = id from by funext b; cases b <;> rfl, List.map_id]
/-- A chain that falls, likewise. -/
theorem chain_down {U : Nat → List Bool} {F : List Bool → List Bool} {N : Nat} (hF : ∀ n, U (n + 1) = F (U n)) (hl : ∀ n, (U n).length = N) (hle : ∀ n, leB (U (n + 1)) (U n)) : ∀ m, N ≤ m → U m = U N := by
  intro m hm
  have h := chain_up (U := fun n => (U n).map not) (F := fun a => (F (a.map not)).map not) (N := N) (fun n => by rw [map_not_not, hF]) (fun n => by rw [List.length_map, hl]) (fun n => leB_not (by rw [hl, hl]) (hle n)) m hm
  have h2 := congrArg (List.map not) h
  rwa [map_not_not, map_not_not] at h2

theorem hit_get (to : List Bool) (x : Int) : hit to x = true ↔ 0 ≤ x ∧ to[x.toNat]? = some true := by
  unfold hit
  by_cases h0 : 0 ≤ x
  · by_cases h1 : x < to.length
    · have h2 : x.toNat < to.length := by omega
      rw [List.getD_eq_getElem?_getD, List.getElem?_eq_getElem h2]
      simp [h0, h1]
    · have h2 : to.length ≤ x.toNat := by omega
      rw [List.getElem?_eq_none h2]
      simp [h0, h1]
  · simp [h0]
theorem stepB_get (g : List (List Int)) (to : List Bool) (k : Nat) : (stepB g to)[k]? = some true ↔ ∃ r, g[k]? = some r ∧ ∃ x ∈ r, 0 ≤ x ∧ to[x.toNat]? = some true := by
  unfold stepB
  rw [List.getElem?_map]
  cases hr : g[k]? with
  | none => simp
  | some r => simp [List.any_eq_true, hit_get]
theorem stepB_mono {g : List (List Int)} {a b : List Bool} (h : leB a b) : leB (stepB g a) (stepB g b) := by
  intro k hk
  rw [stepB_get] at hk ⊢
  obtain ⟨r, hr, x, hx, h0, h1⟩ := hk
  exact ⟨r, hr, x, hx, h0, h _ h1⟩
theorem orB_get {a b : List Bool} (hl : b.length = a.length) (k : Nat) : (orB a b)[k]? = some true ↔ a[k]? = some true ∨ b[k]? = some true := by
  unfold orB
  rw [List.getElem?_zipWith]
  rcases Nat.lt_or_ge k a.length with h1 | h1
  · rw [List.getElem?_eq_getElem h1, List.getElem?_eq_getElem (by omega)]
    simp
  · rw [List.getElem?_eq_none h1, List.getElem?_eq_none (by omega)]
    simp
section
variable {g : List (List Int)} {p : List Bool} (hp : p.length = g.length)
include hp
theorem reachIt_up (n : Nat) : leB (reachIt g n p) (reachIt g (n + 1) p) := by
  intro k hk
  rw [reachIt, orB_get (by rw [stepB_len, reachIt_len g p hp n])]
  exact .inl hk
theorem reachIt_ge {n m : Nat} (h : n ≤ m) : leB (reachIt g n p) (reachIt g m p) := by
  obtain ⟨d, rfl⟩ := Nat.le.dest h
  clear h
  induction d with
  | zero => exact leB_refl _
  | succ d ih => exact leB_trans ih (reachIt_up hp _)
theorem it_reach (n : Nat) : leB (itB g n p) (reachIt g n p) := by
  induction n with
  | zero => exact leB_refl _
  | succ n ih =>
    intro k hk
    rw [reachIt, orB_get (by rw [stepB_len, reachIt_len g p hp n])]
    exact .inr (stepB_mono ih k hk)
theorem reach_it (n k : Nat) (h : (reachIt g n p)[k]? = some true) : ∃ i, i ≤ n ∧ (itB g i p)[k]? = some true := by
  induction n generalizing k with
  | zero => exact ⟨0, Nat.le_refl _, h⟩
  | succ n ih =>
    rw [reachIt, orB_get (by rw [stepB_len, reachIt_len g p hp n])] at h
    rcases h with h | h
    · obtain ⟨i, hi, h⟩ := ih k h
      exact ⟨i, by omega, h⟩
    · rw [stepB_get] at h
      obtain ⟨r, hr, x, hx, h0, h1⟩ := h
      obtain ⟨i, hi, h2⟩ := ih _ h1
      exact ⟨i + 1, by omega, by rw [itB, stepB_get]; exact ⟨r, hr, x, hx, h0, h2⟩⟩
/-- However many steps: who comes there does so in as many as there are nodes. -/
theorem it_reach_all (n : Nat) : leB (itB g n p) (reachIt g g.length p) := by
  have h := chain_up (U := fun n => reachIt g n p) (F := fun a => orB a (stepB g a)) (N := g.length) (fun n => rfl) (fun n => reachIt_len g p hp n) (fun n => reachIt_up hp n)
  rcases Nat.le_total n g.length with hn | hn
  · exact leB_trans (it_reach hp n) (reachIt_ge hp hn)
  · have := it_reach hp n
    rwa [h n hn] at this
end
theorem hopRow_pre (g : List (List Int)) (p : List Bool) (k : Nat) {n m : Nat} (h : n ≤ m) : hopRow g p k n <+: hopRow g p k m := by
  obtain ⟨d, rfl⟩ := Nat.le.dest h
  clear h
  induction d with
  | zero => exact List.prefix_refl _
  | succ d ih =>
    refine List.IsPrefix.trans ih ?_
    rw [← Nat.add_assoc]
    unfold hopRow
    rw [List.range_succ, List.filter_append, List.map_append]
    exact List.prefix_append _ _
theorem hopRow_mem (g : List (List Int)) (p : List Bool) (k n : Nat) (x : Int) : x ∈ hopRow g p k n ↔ ∃ i : Nat, x = i ∧ i < n ∧ (itB g i p)[k]? = some true := by
  unfold hopRow
  simp only [List.mem_map, List.mem_filter, List.mem_range, List.getD_eq_getElem?_getD]
  constructor
  · rintro ⟨i, ⟨h1, h2⟩, rfl⟩
    refine ⟨i, rfl, h1, ?_⟩
    cases hx : (itB g i p)[k]? with
    | none => rw [hx] at h2; cases h2
    | some b => rw [hx] at h2; simp at h2; rw [h2]
  · rintro ⟨i, rfl, h1, h2⟩
    exact ⟨i, ⟨h1, by rw [h2]; rfl⟩, rfl⟩
theorem hopsB_len (g : List (List Int)) (to : List Bool) (most : Int) : (hopsB g to most).length = g.length := hopsI_len _ _ _ _
theorem hopsB_get (g : List (List Int)) (to : List Bool) (most : Int) (k : Nat) (h : k < g.length) : (hopsB g to most)[k]? = some (hopRow g (pad g.length to) k (min most 256 + 1).toNat) := by
  simp [hopsB, hopsI, h]
theorem reachB_len (g : List (List Int)) (to : List Bool) : (reachB g to).length = g.length := reachIt_len g _ (pad_len _ _) _
/-- Who is in some number of steps reaches. -/
theorem hops_reach (g : List (List Int)) (to : List Bool) (k n : Nat) (x : Int) (h : x ∈ hopRow g (pad g.length to) k n) : (reachB g to)[k]? = some true := by
  rw [hopRow_mem] at h
  obtain ⟨i, _, _, h⟩ := h
  exact it_reach_all (pad_len _ _) i k h
/-- What ForwardMore asks, node by node. -/
theorem more_node (g : List (List Int)) (to : List Bool) (most : Int) (k : Nat) (hk : k < g.length) :
    ∃ a b r, (hopsB g to most)[k]? = some a ∧ (hopsB g to (most + 5))[k]? = some b ∧ (reachB g to)[k]? = some r ∧ a.length ≤ b.length ∧ (0 < b.length → r = true) ∧ ∀ (i : Nat) x, a[i]? = some x → b[i]? = some x := by
  obtain ⟨r, hr⟩ : ∃ r, (reachB g to)[k]? = some r := ⟨_, List.getElem?_eq_getElem (by rw [reachB_len]; exact hk)⟩
  have hpre := hopRow_pre g (pad g.length to) k (n := (min most 256 + 1).toNat) (m := (min (most + 5) 256 + 1).toNat) (by omega)
  refine ⟨_, _, r, hopsB_get g to most k hk, hopsB_get g to (most + 5) k hk, hr, hpre.length_le, fun hb => ?_, fun i x hx => ?_⟩
  · obtain ⟨x, hx⟩ := List.exists_mem_of_length_pos hb
    have := hops_reach g to k _ x hx
    rw [hr] at this
    injection this
  · obtain ⟨t, ht⟩ := hpre
    have hi : i < (hopRow g (pad g.length to) k (min most 256 + 1).toNat).length := by
      rcases Nat.lt_or_ge i (hopRow g (pad g.length to) k (min most 256 + 1).toNat).length with h | h
      · exact h
      · rw [List.getElem?_eq_none h] at hx; cases hx
    rw [← ht, List.getElem?_append_left hi, hx]
/-! What ForwardStep asks -/
def hasB (l : List Int) (n : Int) : Bool := l.any fun x => x == n
theorem hasB_hop (g : List (List Int)) (p : List Bool) (k m n : Nat) (h : n < m) (b : Bool) (hb : (itB g n p)[k]? = some b) : hasB (hopRow g p k m) n = b := by
  have : hasB (hopRow g p k m) n = true ↔ (n : Int) ∈ hopRow g p k m := by
    unfold hasB
    rw [List.any_eq_true]
    exact ⟨fun ⟨x, hx, he⟩ => by rw [← show x = (n : Int) by simpa using he]; exact hx, fun hx => ⟨_, hx, by simp⟩⟩
  rw [hopRow_mem] at this
  cases b with
  | true => exact this.2 ⟨n, rfl, h, hb⟩
  | false =>
    cases hx : hasB (hopRow g p k m) n with
    | false => rfl
    | true =>
      obtain ⟨i, e, _, h2⟩ := this.1 hx
      have : n = i := by omega
      subst this
      rw [hb] at h2
      cases h2
theorem pad_get (n : Nat) (to : List Bool) (k : Nat) (h : k < n) : (pad n to)[k]? = some (decide (k < to.length) && to.getD k false) := by
  unfold pad
  by_cases hk : k < to.length
  · rw [List.getElem?_append_left (by rw [List.length_take]; omega), List.getElem?_take, if_pos h, List.getD_eq_getElem?_getD, List.getElem?_eq_getElem hk]
    simp [hk]
  · have hl : (to.take n).length ≤ k := by rw [List.length_take]; omega
    rw [List.getElem?_append_right hl, List.getElem?_replicate, if_pos (by rw [List.length_take]; omega)]
    simp [hk]
theorem itB_next (g : List (List Int)) (p : List Bool) (k n : Nat) (r : List Int) (hr : g[k]? = some r) : (itB g (n + 1) p)[k]? = some (r.any (hit (itB g n p))) := by
  rw [itB, stepB, List.getElem?_map, hr]; rfl
/-! Walks: of n steps from x -/
def wk (g : List (List Int)) (p : List Bool) (n : Nat) (x : Int) : Bool := hit (itB g n p) x
theorem wk_out {g : List (List Int)} {p : List Bool} (hp : p.length = g.length) (n : Nat) {x : Int} (h : ¬ (0 ≤ x ∧ x < g.length)) : wk g p n x = false := hit_out (by rw [itB_len g p hp n]; exact h)
theorem wk_zero {g : List (List Int)} {p : List Bool} (hp : p.length = g.length) {x : Int} (h0 : 0 ≤ x) (h1 : x < g.length) {b : Bool} (hb : p[x.toNat]? = some b) : wk g p 0 x = b := hit_in h0 (by rw [itB, hp]; exact h1) hb
theorem wk_succ {g : List (List Int)} {p : List Bool} (hp : p.length = g.length) (n : Nat) {x : Int} (h0 : 0 ≤ x) (h1 : x < g.length) {r : List Int} (hr : g[x.toNat]? = some r) : wk g p (n + 1) x = r.any (wk g p n) :=
  hit_in h0 (by rw [itB_len g p hp]; exact h1) (itB_next g p x.toNat n r hr)
theorem wk_get {g : List (List Int)} {p : List Bool} (hp : p.length = g.length) (n k : Nat) (h : k < g.length) {b : Bool} (hb : (itB g n p)[k]? = some b) : wk g p n k = b := hit_in (by omega) (by rw [itB_len g p hp]; omega) (by simpa using hb)
/-- Whoever goes on for as many steps as there are nodes does so for more. -/
theorem loops_more (g : List (List Int)) (m : Nat) (hm : g.length ≤ m) : itB g m (List.replicate g.length true) = loopsB g := by
  have hl : (List.replicate g.length true).length = g.length := by simp
  refine chain_down (U := fun n => itB g n (List.replicate g.length true)) (F := stepB g) (N := g.length) (fun n => rfl) (fun n => itB_len g _ hl n) (fun n => ?_) m hm
  induction n with
  | zero =>
    intro k hk
    have h1 : k < (stepB g (List.replicate g.length true)).length := by
      rcases Nat.lt_or_ge k (stepB g (List.replicate g.length true)).length with h | h
      · exact h
      · have hk' : (stepB g (List.replicate g.length true))[k]? = some true := hk
        rw [List.getElem?_eq_none h] at hk'; cases hk'
    rw [stepB_len] at h1
    show (List.replicate g.length true)[k]? = some true
    rw [List.getElem?_replicate, if_pos h1]
  | succ n ih => exact stepB_mono ih
end Go.Proofs.Ytmegjmiiiecnoaa.FwQ
