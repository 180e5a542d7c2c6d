/- Texts of this work, joined: FwQ, LiL. -/
import Derived.Test.YtcagkdgpoijkoaaJ12
import Derived.Test.YtcagkdgpoijkoaaPLmx31
section
namespace Go.Proofs.Ytcagkdgpoijkoaa.FwQ
open Go.Proofs.Ytcagkdgpoijkoaa.FwP
set_option linter.unusedVariables false
set_option linter.unusedSimpArgs false
def leB (a b : List Bool) : Prop := ∀ k : Nat, a[k]? = some true → b[k]? = some true
theorem leB_refl (a : List Bool) : leB a a := fun _ h => h
theorem leB_trans {a b c : List Bool} (h : leB a b) (h' : leB b c) : leB a c := fun k hk => h' k (h k hk)
theorem leB_cons {x y : Bool} {a b : List Bool} (h : leB (x :: a) (y :: b)) : (x = true → y = true) ∧ leB a b :=
  ⟨fun hx => by have := h 0 (by simp [hx]); simpa using this, fun k hk => by have := h (k + 1) (by simpa using hk); simpa using this⟩
theorem count_le : ∀ {a b : List Bool}, a.length = b.length → leB a b → a.count true ≤ b.count true ∧ (a.count true = b.count true → a = b)
  | [], [], _, _ => ⟨Nat.le_refl _, fun _ => rfl⟩
  | x :: a, y :: b, hl, h => by
    obtain ⟨h1, h2⟩ := leB_cons h; obtain ⟨h3, h4⟩ := count_le (by simpa using hl) h2; cases x <;> cases y <;> simp at h1 ⊢
    · exact ⟨h3, h4⟩
    · exact ⟨by omega, by omega⟩
    · exact ⟨h3, h4⟩
  | [], _ :: _, hl, _ => by simp at hl
  | _ :: _, [], hl, _ => by simp at hl
theorem chain_up {U : Nat → List Bool} {F : List Bool → List Bool} {N : Nat} (hF : ∀ n, U (n + 1) = F (U n)) (hl : ∀ n, (U n).length = N) (hle : ∀ n, leB (U n) (U (n + 1))) : ∀ m, N ≤ m → U m = U N := by
  have still : ∀ n, U (n + 1) = U n → ∀ d, U (n + d) = U n := by
    intro n hn d
    induction d with
    | zero => rfl
    | succ d ih => rw [← Nat.add_assoc, hF, ih, ← hF, hn]
  have hex : ∃ n, n ≤ N ∧ U (n + 1) = U n := by
    apply Classical.byContradiction; intro hno; have hne : ∀ n, n ≤ N → U (n + 1) ≠ U n := fun n hn e => hno ⟨n, hn, e⟩
    have hc : ∀ n, n ≤ N + 1 → n ≤ (U n).count true := by
      intro n
      induction n with
      | zero => intro _; omega
      | succ n ih =>
        intro hn; have h1 := ih (by omega); obtain ⟨h2, h3⟩ := count_le (by rw [hl, hl]) (hle n); rcases Nat.lt_or_ge ((U n).count true) ((U (n + 1)).count true) with h4 | h4
        · omega
        · exact absurd (h3 (by omega)).symm (hne n (by omega))
    have h1 := hc (N + 1) (Nat.le_refl _); have h2 : (U (N + 1)).count true ≤ (U (N + 1)).length := List.count_le_length; rw [hl] at h2; omega
  obtain ⟨n, hn, e⟩ := hex; intro m hm; have h1 := still n e (m - n); have h2 := still n e (N - n); rw [show n + (m - n) = m by omega] at h1; rw [show n + (N - n) = N by omega] at h2; rw [h1, h2]
theorem hit_get (to_ : List Bool) (x : Int) : hit to_ x = true ↔ 0 ≤ x ∧ to_[x.toNat]? = some true := by
  unfold hit; by_cases h0 : 0 ≤ x
  · by_cases h1 : x < to_.length
    · have h2 : x.toNat < to_.length := by omega
      rw [List.getD_eq_getElem?_getD, List.getElem?_eq_getElem h2]; simp [h0, h1]
    · have h2 : to_.length ≤ x.toNat := by omega
      rw [List.getElem?_eq_none h2]; simp [h0, h1]
  · simp [h0]
theorem stepB_get (g : List (List Int)) (to_ : List Bool) (k : Nat) : (stepB g to_)[k]? = some true ↔ ∃ r, g[k]? = some r ∧ ∃ x ∈ r, 0 ≤ x ∧ to_[x.toNat]? = some true := by
  unfold stepB; rw [List.getElem?_map]
  cases hr : g[k]? with
  | none => simp
  | some r => simp [List.any_eq_true, hit_get]
theorem stepB_mono {g : List (List Int)} {a b : List Bool} (h : leB a b) : leB (stepB g a) (stepB g b) := by
  intro k hk; rw [stepB_get] at hk ⊢; obtain ⟨r, hr, x, hx, h0, h1⟩ := hk; exact ⟨r, hr, x, hx, h0, h _ h1⟩
theorem orB_get {a b : List Bool} (hl : b.length = a.length) (k : Nat) : (orB a b)[k]? = some true ↔ a[k]? = some true ∨ b[k]? = some true := by
  unfold orB; rw [List.getElem?_zipWith]; rcases Nat.lt_or_ge k a.length with h1 | h1
  · rw [List.getElem?_eq_getElem h1, List.getElem?_eq_getElem (by omega)]
    simp
  · rw [List.getElem?_eq_none h1, List.getElem?_eq_none (by omega)]
    simp
section
variable {g : List (List Int)} {p : List Bool} (hp : p.length = g.length)
include hp
theorem reachIt_up (n : Nat) : leB (reachIt g n p) (reachIt g (n + 1) p) := by
  intro k hk; rw [reachIt, orB_get (by rw [stepB_len, reachIt_len g p hp n])]; exact .inl hk
theorem reachIt_ge {n m : Nat} (h : n ≤ m) : leB (reachIt g n p) (reachIt g m p) := by
  obtain ⟨d, rfl⟩ := Nat.le.dest h; clear h
  induction d with
  | zero => exact leB_refl _
  | succ d ih => exact leB_trans ih (reachIt_up hp _)
theorem it_reach (n : Nat) : leB (itB g n p) (reachIt g n p) := by
  induction n with
  | zero => exact leB_refl _
  | succ n ih =>
    intro k hk; rw [reachIt, orB_get (by rw [stepB_len, reachIt_len g p hp n])]; exact .inr (stepB_mono ih k hk)
theorem reach_it (n k : Nat) (h : (reachIt g n p)[k]? = some true) : ∃ i, i ≤ n ∧ (itB g i p)[k]? = some true := by
  induction n generalizing k with
  | zero => exact ⟨0, Nat.le_refl _, h⟩
  | succ n ih =>
    rw [reachIt, orB_get (by rw [stepB_len, reachIt_len g p hp n])] at h; rcases h with h | h
    · obtain ⟨i, hi, h⟩ := ih k h
      exact ⟨i, by omega, h⟩
    · rw [stepB_get] at h
      obtain ⟨r, hr, x, hx, h0, h1⟩ := h; obtain ⟨i, hi, h2⟩ := ih _ h1; exact ⟨i + 1, by omega, by rw [itB, stepB_get]; exact ⟨r, hr, x, hx, h0, h2⟩⟩
theorem it_reach_all (n : Nat) : leB (itB g n p) (reachIt g g.length p) := by
  have h := chain_up (U := fun n => reachIt g n p) (F := fun a => orB a (stepB g a)) (N := g.length) (fun n => rfl) (fun n => reachIt_len g p hp n) (fun n => reachIt_up hp n); rcases Nat.le_total n g.length with hn | hn
  · exact leB_trans (it_reach hp n) (reachIt_ge hp hn)
  · have := it_reach hp n
    rwa [h n hn] at this
end
theorem hopRow_pre (g : List (List Int)) (p : List Bool) (k : Nat) {n m : Nat} (h : n ≤ m) : hopRow g p k n <+: hopRow g p k m := by
  obtain ⟨d, rfl⟩ := Nat.le.dest h; clear h
  induction d with
  | zero => exact List.prefix_refl _
  | succ d ih =>
    refine List.IsPrefix.trans ih ?_; rw [← Nat.add_assoc]; unfold hopRow; rw [List.range_succ, List.filter_append, List.map_append]; exact List.prefix_append _ _
theorem hopRow_mem (g : List (List Int)) (p : List Bool) (k n : Nat) (x : Int) : x ∈ hopRow g p k n ↔ ∃ i : Nat, x = i ∧ i < n ∧ (itB g i p)[k]? = some true := by
  unfold hopRow; simp only [List.mem_map, List.mem_filter, List.mem_range, List.getD_eq_getElem?_getD]; constructor
  · rintro ⟨i, ⟨h1, h2⟩, rfl⟩
    refine ⟨i, rfl, h1, ?_⟩
    cases hx : (itB g i p)[k]? with
    | none => rw [hx] at h2; cases h2
    | some b => rw [hx] at h2; simp at h2; rw [h2]
  · rintro ⟨i, rfl, h1, h2⟩
    exact ⟨i, ⟨h1, by rw [h2]; rfl⟩, rfl⟩
theorem hopsB_len (g : List (List Int)) (to_ : List Bool) (most : Int) : (hopsB g to_ most).length = g.length := hopsI_len _ _ _ _
theorem hopsB_get (g : List (List Int)) (to_ : List Bool) (most : Int) (k : Nat) (h : k < g.length) : (hopsB g to_ most)[k]? = some (hopRow g (pad g.length to_) k (min most 256 + 1).toNat) := by
  simp [hopsB, hopsI, h]
theorem reachB_len (g : List (List Int)) (to_ : List Bool) : (reachB g to_).length = g.length := reachIt_len g _ (pad_len _ _) _
theorem hops_reach (g : List (List Int)) (to_ : List Bool) (k n : Nat) (x : Int) (h : x ∈ hopRow g (pad g.length to_) k n) : (reachB g to_)[k]? = some true := by
  rw [hopRow_mem] at h; obtain ⟨i, _, _, h⟩ := h; exact it_reach_all (pad_len _ _) i k h
theorem pad_get (n : Nat) (to_ : List Bool) (k : Nat) (h : k < n) : (pad n to_)[k]? = some (decide (k < to_.length) && to_.getD k false) := by
  unfold pad; by_cases hk : k < to_.length
  · rw [List.getElem?_append_left (by rw [List.length_take]; omega), List.getElem?_take, if_pos h, List.getD_eq_getElem?_getD, List.getElem?_eq_getElem hk]
    simp [hk]
  · have hl : (to_.take n).length ≤ k := by rw [List.length_take]; omega
    rw [List.getElem?_append_right hl, List.getElem?_replicate, if_pos (by rw [List.length_take]; omega)]; simp [hk]
theorem itB_next (g : List (List Int)) (p : List Bool) (k n : Nat) (r : List Int) (hr : g[k]? = some r) : (itB g (n + 1) p)[k]? = some (r.any (hit (itB g n p))) := by
  rw [itB, stepB, List.getElem?_map, hr]; rfl
end Go.Proofs.Ytcagkdgpoijkoaa.FwQ
end
section
namespace Go.Proofs.Ytcagkdgpoijkoaa.LiL
open Go.RowKit Go.Proofs.Ytcagkdgpoijkoaa.PLm Go.Proofs.YtcagkdgpoijkoaaW.PrintWords Go.Proofs.YtcagkdgpoijkoaaW.PrintLast Go.Proofs.YtcagkdgpoijkoaaW.PrintMore Go.Proofs.Ytcagkdgpoijkoaa.Low Go.Proofs.Ytcagkdgpoijkoaa.LiC Go.Proofs.Ytcagkdgpoijkoaa.LiN
open Go.Proofs.Ytcagkdgpoijkoaa.Mq (Pf Rt Cl Ed Mp Lk)
set_option linter.unusedVariables false
set_option linter.unusedSimpArgs false
set_option linter.all false
abbrev AN := S61
def ans (H : List (List Int)) (R P : List Bool) (i : Nat) : AN := ⟨R.getD i false, P.getD i false, H.getD i []⟩
theorem ans_l (H : List (List Int)) (R P : List Bool) (n : Nat) (hn : n ≤ 1000000) (hH : H.length = n) (hR : R.length = n) (hP : P.length = n) : ∀ d i (acc : List AN), i + d = n → acc.length = i → ∃ k, lift_Answers.l0 k H R P acc (n : Int) (i : Int) = some (acc ++ (List.range' i d).map (ans H R P))
  | 0, i, acc, h, ha => ⟨1, by rw [lift_Answers.l0, if_neg (by omega)]; simp⟩
  | d + 1, i, acc, h, ha => by
    obtain ⟨k, hk⟩ := ans_l H R P n hn hH hR hP d (i + 1) (acc ++ [ans H R P i]) (by omega) (by simp [ha]); refine ⟨k + 1, ?_⟩; rw [lift_Answers.l0, if_pos (by omega), if_pos (by omega), if_pos (by omega), if_pos (by omega), if_pos (by omega), if_pos (by omega), w1 (by omega)]; refine Eq.trans hk ?_; rw [List.range'_succ, List.map_cons, List.append_assoc]; rfl
open Go.Proofs.Ytcagkdgpoijkoaa.FwP (hopsB reachB loopsB) in
theorem answers_at (o : List Bool) (s : List Int) (E : List (List ED)) (h : NetOk o s E) (L : List AT) (m : Int) : ∃ K G, (∀ k, K ≤ k → forward_Of.f k o s E L = some G) ∧ G.length = o.length ∧ ∀ k, K ≤ k → lift_Answers.f k o s E L m = some ((List.range o.length).map (ans (hopsB G o m) (reachB G o) (loopsB G))) := by
  obtain ⟨K, G, hG, hl⟩ := of_at o s E h L; have hol := h.l
  have hLl : (loopsB G).length = G.length := by
    unfold loopsB; exact Go.Proofs.Ytcagkdgpoijkoaa.FwP.itB_len G _ (by simp) _
  obtain ⟨k, hk⟩ := ans_l (hopsB G o m) (reachB G o) (loopsB G) o.length hol (by rw [Go.Proofs.Ytcagkdgpoijkoaa.FwQ.hopsB_len, hl]) (by rw [Go.Proofs.Ytcagkdgpoijkoaa.FwQ.reachB_len, hl]) (by rw [hLl, hl]) o.length 0 [] (by omega) rfl; refine ⟨K + k, G, fun k' hk' => hG k' (by omega), hl, fun k' hk' => ?_⟩; unfold lift_Answers.f; rw [hG k' (by omega), Option.bind_some]; unfold forward_Hops.f forward_Reach.f forward_Loops.f; rw [if_pos (by omega), if_pos (by omega), if_pos (by omega), Option.bind_some, Option.bind_some, Option.bind_some, hl]; refine (up (F := fun k => lift_Answers.l0 k _ _ _ _ _ _) (fun k => lift_Answers.mono_l k _ _ _ _ _ _) (by omega : k ≤ k') hk).trans ?_; rw [List.nil_append, List.range_eq_range']
end Go.Proofs.Ytcagkdgpoijkoaa.LiL
end
