


/- Plain: graphs, walks and steps (forward), without the program. -/
namespace Go.Proofs.Ytkhbpjhlekldpaa.FwP
set_option linter.unusedVariables false
set_option linter.unusedSimpArgs false

/-- One of some nodes is x. -/
def hit (to : List Bool) (x : Int) : Bool := decide (0 ≤ x) && (decide (x < to.length) && to.getD x.toNat false)
def stepB (g : List (List Int)) (to : List Bool) : List Bool := g.map fun next => next.any (hit to)
/-- The first k rows are done. -/
def stepN (g : List (List Int)) (to : List Bool) (k : Nat) : List Bool := stepB (g.take k) to ++ List.replicate (g.length - k) false

theorem stepN_zero (g : List (List Int)) (to : List Bool) : stepN g to 0 = List.replicate g.length false := by simp [stepN, stepB]
theorem stepN_all (g : List (List Int)) (to : List Bool) : stepN g to g.length = stepB g to := by simp [stepN]
theorem stepN_len (g : List (List Int)) (to : List Bool) (k : Nat) (h : k ≤ g.length) : (stepN g to k).length = g.length := by simp [stepN, stepB]; omega
theorem stepB_len (g : List (List Int)) (to : List Bool) : (stepB g to).length = g.length := by simp [stepB]
theorem stepN_get (g : List (List Int)) (to : List Bool) (k : Nat) (h : k < g.length) : (stepN g to k)[k]? = some false := by
  have hl : (stepB (g.take k) to).length = k := by simp [stepB]; omega
  rw [stepN, List.getElem?_append_right (by omega), hl, Nat.sub_self, List.getElem?_replicate, if_pos (by omega)]
theorem stepN_succ (g : List (List Int)) (to : List Bool) (k : Nat) (r : List Int) (hr : g[k]? = some r) : (stepN g to k).set k (r.any (hit to)) = stepN g to (k + 1) := by
  have h : k < g.length := by
    rcases Nat.lt_or_ge k g.length with h1 | h1
    · exact h1
    · rw [List.getElem?_eq_none h1] at hr; cases hr
  have hl : (stepB (g.take k) to).length = k := by simp [stepB]; omega
  rw [stepN, List.set_append_right _ _ (by omega), hl, Nat.sub_self, show g.length - k = (g.length - (k + 1)) + 1 by omega, List.replicate_succ, List.set_cons_zero, stepN, List.take_add_one, hr]
  simp [stepB]
theorem set_same {α : Type} {l : List α} {k : Nat} {x : α} (h : l[k]? = some x) : l.set k x = l := by
  apply List.ext_getElem?
  intro i
  by_cases e : k = i
  · subst e
    rw [List.getElem?_set_self (by rcases Nat.lt_or_ge k l.length with h1 | h1; exact h1; rw [List.getElem?_eq_none h1] at h; cases h), h]
  · rw [List.getElem?_set_ne e]
theorem any_snoc {α : Type} (l : List α) (p : α → Bool) (j : Nat) (x : α) (hx : l[j]? = some x) : (l.take (j + 1)).any p = ((l.take j).any p || p x) := by
  rw [List.take_add_one, hx]; simp
theorem hit_in {to : List Bool} {x : Int} {y : Bool} (h0 : 0 ≤ x) (h1 : x < to.length) (hy : to[x.toNat]? = some y) : hit to x = y := by
  unfold hit; rw [decide_eq_true h0, decide_eq_true h1, List.getD_eq_getElem?_getD, hy]; rfl
theorem hit_out {to : List Bool} {x : Int} (h : ¬ (0 ≤ x ∧ x < to.length)) : hit to x = false := by
  unfold hit
  by_cases h0 : 0 ≤ x
  · have : ¬ x < to.length := fun h1 => h ⟨h0, h1⟩
    simp [this]
  · simp [h0]
/-- .. and the first j of row k. -/
def stepI (g : List (List Int)) (to : List Bool) (k : Nat) (r : List Int) (j : Nat) : List Bool := (stepN g to k).set k ((r.take j).any (hit to))
theorem stepI_zero (g : List (List Int)) (to : List Bool) (k : Nat) (r : List Int) (h : k < g.length) : stepI g to k r 0 = stepN g to k := by
  rw [stepI, List.take_zero, List.any_nil, set_same (stepN_get g to k h)]
theorem stepI_len (g : List (List Int)) (to : List Bool) (k : Nat) (r : List Int) (j : Nat) (h : k < g.length) : (stepI g to k r j).length = g.length := by
  rw [stepI, List.length_set, stepN_len g to k (by omega)]
theorem stepI_get (g : List (List Int)) (to : List Bool) (k : Nat) (r : List Int) (j : Nat) (h : k < g.length) : (stepI g to k r j)[k]? = some ((r.take j).any (hit to)) := by
  rw [stepI, List.getElem?_set_self (by rw [stepN_len g to k (by omega)]; exact h)]
theorem stepI_set (g : List (List Int)) (to : List Bool) (k : Nat) (r : List Int) (j : Nat) (x : Int) (hx : r[j]? = some x) (c : Bool) (hc : c = ((r.take j).any (hit to) || hit to x)) : (stepI g to k r j).set k c = stepI g to k r (j + 1) := by
  rw [stepI, stepI, List.set_set, any_snoc r (hit to) j x hx, hc]
theorem stepI_all (g : List (List Int)) (to : List Bool) (k : Nat) (r : List Int) (hr : g[k]? = some r) : stepI g to k r r.length = stepN g to (k + 1) := by
  rw [stepI, List.take_length, stepN_succ g to k r hr]
/-! Steps again and again -/
def itB (g : List (List Int)) : Nat → List Bool → List Bool
  | 0, b => b
  | n + 1, b => stepB g (itB g n b)
theorem itB_len (g : List (List Int)) (b : List Bool) (h : b.length = g.length) : ∀ n, (itB g n b).length = g.length
  | 0 => h
  | n + 1 => stepB_len g _
def loopsB (g : List (List Int)) : List Bool := itB g g.length (List.replicate g.length true)
/-- The first k are true. -/
def trues (n k : Nat) : List Bool := List.replicate k true ++ List.replicate (n - k) false
theorem trues_zero (n : Nat) : trues n 0 = List.replicate n false := by simp [trues]
theorem trues_all (n : Nat) : trues n n = List.replicate n true := by simp [trues]
theorem trues_len (n k : Nat) (h : k ≤ n) : (trues n k).length = n := by simp [trues]; omega
theorem trues_get (n k : Nat) (h : k < n) : (trues n k)[k]? = some false := by
  rw [trues, List.getElem?_append_right (by simp), List.length_replicate, Nat.sub_self, List.getElem?_replicate, if_pos (by omega)]
theorem trues_succ (n k : Nat) (h : k < n) : (trues n k).set k true = trues n (k + 1) := by
  rw [trues, List.set_append_right _ _ (by simp), List.length_replicate, Nat.sub_self, show n - k = (n - (k + 1)) + 1 by omega, List.replicate_succ, List.set_cons_zero, trues, List.replicate_succ']
  simp

/-- A list of some length: cut, or with no behind it. -/
def pad (n : Nat) (to : List Bool) : List Bool := to.take n ++ List.replicate (n - to.length) false
theorem pad_len (n : Nat) (to : List Bool) : (pad n to).length = n := by simp [pad]; omega
theorem pad_of (n : Nat) (to : List Bool) : to.take (List.replicate n false).length ++ (List.replicate n false).drop to.length = pad n to := by simp [pad]
/-- The first k of st are added to out. -/
def orN (out st : List Bool) (k : Nat) : List Bool := List.zipWith (· || ·) (out.take k) (st.take k) ++ out.drop k
theorem orN_zero (out st : List Bool) : orN out st 0 = out := by simp [orN]
theorem orN_len (out st : List Bool) (k : Nat) (h : st.length = out.length) (hk : k ≤ out.length) : (orN out st k).length = out.length := by simp [orN]; omega
theorem orN_get (out st : List Bool) (k : Nat) (b : Bool) (h : st.length = out.length) (hb : out[k]? = some b) : (orN out st k)[k]? = some b := by
  have hk : k < out.length := by
    rcases Nat.lt_or_ge k out.length with h1 | h1
    · exact h1
    · rw [List.getElem?_eq_none h1] at hb; cases hb
  have hl : (List.zipWith (· || ·) (out.take k) (st.take k)).length = k := by simp; omega
  rw [orN, List.getElem?_append_right (by omega), hl, Nat.sub_self, List.getElem?_drop, Nat.add_zero, hb]
theorem orN_succ (out st : List Bool) (k : Nat) (b c : Bool) (h : st.length = out.length) (hb : out[k]? = some b) (hc : st[k]? = some c) : (orN out st k).set k (b || c) = orN out st (k + 1) := by
  have hk : k < out.length := by
    rcases Nat.lt_or_ge k out.length with h1 | h1
    · exact h1
    · rw [List.getElem?_eq_none h1] at hb; cases hb
  have hl : (List.zipWith (· || ·) (out.take k) (st.take k)).length = k := by simp; omega
  have hd : out.drop k = b :: out.drop (k + 1) := by
    rw [List.drop_eq_getElem_cons hk]
    congr 1
    rw [List.getElem?_eq_getElem hk] at hb
    injection hb
  rw [orN, List.set_append_right _ _ (by omega), hl, Nat.sub_self, hd, List.set_cons_zero, orN, List.take_add_one, List.take_add_one, hb, hc]
  rw [List.zipWith_append (by simp; omega)]
  simp
theorem orN_all (out st : List Bool) (h : st.length = out.length) : orN out st out.length = List.zipWith (· || ·) out st := by
  rw [orN, List.take_length, ← h, List.take_length, h, List.drop_length, List.append_nil]
def orB (out st : List Bool) : List Bool := List.zipWith (· || ·) out st
theorem orB_len (out st : List Bool) (h : st.length = out.length) : (orB out st).length = out.length := by simp [orB, h]
def reachIt (g : List (List Int)) : Nat → List Bool → List Bool
  | 0, b => b
  | n + 1, b => orB (reachIt g n b) (stepB g (reachIt g n b))
theorem reachIt_len (g : List (List Int)) (b : List Bool) (h : b.length = g.length) : ∀ n, (reachIt g n b).length = g.length
  | 0 => h
  | n + 1 => by rw [reachIt, orB_len _ _ (by rw [stepB_len, reachIt_len g b h n]), reachIt_len g b h n]
def reachB (g : List (List Int)) (to : List Bool) : List Bool := reachIt g g.length (pad g.length to)
/-! The numbers of steps -/
def hopRow (g : List (List Int)) (p : List Bool) (k n : Nat) : List Int := ((List.range n).filter fun i => (itB g i p).getD k false).map Int.ofNat
theorem hopRow_succ (g : List (List Int)) (p : List Bool) (k n : Nat) (b : Bool) (hb : (itB g n p)[k]? = some b) : hopRow g p k (n + 1) = hopRow g p k n ++ (if b then [(n : Int)] else []) := by
  rw [hopRow, List.range_succ, List.filter_append, List.map_append, hopRow]
  congr 1
  simp [List.filter_cons, List.getD_eq_getElem?_getD, hb]
  cases b <;> simp
theorem hopRow_true (g : List (List Int)) (p : List Bool) (k n : Nat) (hb : (itB g n p)[k]? = some true) : hopRow g p k (n + 1) = hopRow g p k n ++ [(n : Int)] := by
  rw [hopRow_succ g p k n true hb]; rfl
theorem hopRow_len (g : List (List Int)) (p : List Bool) (k n : Nat) : (hopRow g p k n).length ≤ n := by
  rw [hopRow, List.length_map]
  have := List.length_filter_le (fun i => (itB g i p).getD k false) (List.range n)
  simpa using this
/-- The rows behind n whole steps, and the first j rows of one more. -/
def hopsI (g : List (List Int)) (p : List Bool) (n j : Nat) : List (List Int) := (List.range g.length).map fun k => hopRow g p k (if k < j then n + 1 else n)
theorem hopsI_len (g : List (List Int)) (p : List Bool) (n j : Nat) : (hopsI g p n j).length = g.length := by simp [hopsI]
theorem hopsI_get (g : List (List Int)) (p : List Bool) (n j : Nat) (h : j < g.length) : (hopsI g p n j)[j]? = some (hopRow g p j n) := by
  simp [hopsI, h]
theorem hopsI_next (g : List (List Int)) (p : List Bool) (n j : Nat) (h : j < g.length) : (hopsI g p n j).set j (hopRow g p j (n + 1)) = hopsI g p n (j + 1) := by
  apply List.ext_getElem
  · simp [hopsI]
  · intro i h1 h2
    simp only [hopsI, List.getElem_set, List.getElem_map, List.getElem_range]
    by_cases e : j = i
    · subst e; simp
    · rw [if_neg e]
      congr 1
      by_cases e2 : i < j
      · rw [if_pos e2, if_pos (by omega)]
      · rw [if_neg e2, if_neg (by omega)]
theorem hopsI_same (g : List (List Int)) (p : List Bool) (n j : Nat) (h : j < g.length) (hb : (itB g n p)[j]? = some false) : hopsI g p n j = hopsI g p n (j + 1) := by
  rw [← hopsI_next g p n j h, hopRow_succ g p j n false hb]
  simp only [Bool.false_eq_true, if_false, List.append_nil]
  rw [set_same (hopsI_get g p n j h)]
theorem hopsI_all (g : List (List Int)) (p : List Bool) (n : Nat) : hopsI g p n g.length = hopsI g p (n + 1) 0 := by
  simp only [hopsI]
  apply List.map_congr_left
  intro k hk
  rw [if_pos (by simpa using hk), if_neg (by omega)]
theorem hopsI_zero (g : List (List Int)) (p : List Bool) : hopsI g p 0 0 = List.replicate g.length [] := by
  apply List.ext_getElem
  · simp [hopsI]
  · intro i h1 h2; simp [hopsI, hopRow]
/-- Hops: up to most, and 256. -/
def hopsB (g : List (List Int)) (to : List Bool) (most : Int) : List (List Int) := hopsI g (pad g.length to) (min most 256 + 1).toNat 0
/-! The law's graph: of numbers -/
def numB (n : Int) : Int := n % 10 - 1
def rowB (ns : List Int) : List Int := (ns.take 4).map numB
def graphB (raw : List (List Int)) : List (List Int) := (raw.take 8).map rowB
theorem graphB_len (raw : List (List Int)) : (graphB raw).length ≤ 8 := by simp [graphB]; omega
end Go.Proofs.Ytkhbpjhlekldpaa.FwP
