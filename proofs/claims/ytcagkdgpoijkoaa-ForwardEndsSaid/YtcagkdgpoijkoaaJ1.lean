/- Texts of this work, joined: Bridge, FwP, Fw, Api, OfP, Shelf. -/
import Derived.Test.YtcagkdgpoijkoaaMq
import Derived.Test.YtcagkdgpoijkoaaWMore
import Derived.Test.YtcagkdgpoijkoaaProg
import Derived.Shelf.Small.Bits
import Derived.Shelf.Strconv.Itoa0
import Derived.Shelf.Sort.Plain
import Derived.Shelf.Slices.In.SortNone
section
namespace Go.Proofs.Ytcagkdgpoijkoaa.Bridge
open Go.RowKit Go.Proofs.Ytcagkdgpoijkoaa.Mq
open Go.Proofs.YtcagkdgpoijkoaaW.PrintWords (Kd)
set_option linter.unusedVariables false
section
variable {α β : Type} {d : Kd α} {r : Rep β} {w w0 W : World} {A : Option Addr} {n : Nat} {xs : List α} {ys : List β} {S F : Nat → Prop} {v : Value} {e : Nat} {l R : List Asr}
theorem row_of_C (f : α → β) (hs : d.sz = r.sz) (h0 : 0 < r.sz) (hK : ∀ x cs, d.K w x cs → r.K w (· < w.heap.size) (f x) cs) (h : Kd.C d w A n xs) : Row r w (· < w.heap.size) A (xs.map f) := by
  obtain ⟨h1, h2, h3⟩ := h; refine ⟨by rw [List.length_map, h1]; exact h2, fun hp => ?_⟩; rw [List.length_map, h1] at hp; obtain ⟨ad, rfl, h4⟩ := h3 hp
  have hlt : ad.block < w.heap.size := by
    obtain ⟨c, hc, _, hcc⟩ := h4 0 _ (List.getElem?_eq_getElem (by omega)); have h5 := hcc 0 _ (List.getElem?_eq_getElem (by omega)); have h6 := World.block_lt_of_cell? w _ h5; rwa [add_block] at h6
  refine ⟨ad, rfl, hlt, hlt, fun i y hy => ?_⟩; rw [List.getElem?_map] at hy
  cases hx : xs[i]? with
  | none => rw [hx] at hy; cases hy
  | some x =>
    rw [hx] at hy; injection hy with hy; subst hy; obtain ⟨c, hc, hR, hcc⟩ := h4 i x hx; exact ⟨c, hK x c hR, fun j u hu => by rw [← hs]; exact hcc j u hu⟩
theorem C_of_row (f : β → α) (hs : d.sz = r.sz) (hK : ∀ y cs, r.K w S y cs → d.K w (f y) cs) (h : Row r w S A ys) : Kd.C d w A ys.length (ys.map f) := by
  refine ⟨List.length_map _, h.len, fun hp => ?_⟩; obtain ⟨ad, rfl, h1, h2, h3⟩ := h.2 hp; refine ⟨ad, rfl, fun j p hj => ?_⟩; rw [List.getElem?_map] at hj
  cases hy : ys[j]? with
  | none => rw [hy] at hj; cases hj
  | some y =>
    rw [hy] at hj; injection hj with hj; subst hj; obtain ⟨cs, hK', hc⟩ := h3 j y hy; exact ⟨cs, by rw [hs]; exact r.len hK', hK _ _ hK', fun i u hu => by rw [hs]; exact hc i u hu⟩
theorem C_len {k : Nat} (hk : k = n) (h : Kd.C d w A n xs) : Kd.C d w A k xs := hk ▸ h
theorem V_of_own (f : β → α) (e' : Nat) (b : Nat) (hs : d.sz = r.sz) (h0 : 0 < r.sz) (hK : ∀ w S y cs, r.K w S y cs → d.K w (f y) cs) (H : Mem w W [] (own r e v ys :: l)) : Kd.V d e' W b (fun k_ => w.heap.size ≤ k_) v (ys.map f) := by
  obtain ⟨hB, F, S, h1, h2, h3, h4, h5, h6, S1, S2, k1, k2, k3, k4, k5⟩ := H; obtain ⟨A, c, rfl, hc, hr⟩ := Own.row h0 k4; refine ⟨A, c, by rw [List.length_map], by rw [List.length_map]; exact hc, fun W' hW => ?_⟩; refine C_len (List.length_map _) (C_of_row f hs (fun y cs => hK _ _ y cs) (Row.step (w' := W') (fun k hk hlt => hW k ?_ hlt) hr)); rcases hk with hk | hk
  · exact (h1 k hk).elim (fun h => h.elim) (fun h => h.elim (fun h => h.elim) id)
  · exact (h2 k (k1 k hk)).elim (fun h => h.elim) id
theorem ownsRow_base {b b' : Nat} {size : Nat} {cs : List Value} (h : W.ownsRow b e size v n cs) (hb : ∀ k, v.ownBlock = some k → b' ≤ k) : W.ownsRow b' e size v n cs := by
  obtain ⟨h1, h2⟩ := h; refine ⟨h1, ?_⟩; rcases h2 with h2 | ⟨g, cap, cur, rfl, hg, r⟩
  · exact .inl h2
  · exact .inr ⟨g, cap, cur, rfl, hb g (by simp [Value.ownBlock]), r⟩
theorem R_of_own (f : β → α) (hs : d.sz = r.sz) (hK : ∀ w S y cs, r.K w S y cs → ∀ W b ok, d.M W b ok (f y) cs) (H : Mem w W [] (own r e v ys :: l)) : Kd.R d e W w.heap.size (fun _ => True) v (ys.map f) := by
  obtain ⟨hB, F, S, h1, h2, h3, h4, h5, h6, S1, S2, k1, k2, k3, ⟨k4, cells, ho, hr⟩, k5⟩ := H; refine ⟨fun _ _ => trivial, cells, ?_, ?_⟩
  · rw [List.length_map, hs]
    exact ownsRow_base ho (fun k hk => (h2 k (k1 k (k4 k hk))).elim (fun h => h.elim) id)
  · refine ⟨by rw [List.length_map, hs]; exact hr.1, fun j p hj => ?_⟩
    rw [List.getElem?_map] at hj
    cases hy : ys[j]? with
    | none => rw [hy] at hj; cases hj
    | some y =>
      rw [hy] at hj; injection hj with hj; subst hj; rw [hs]; exact hK _ _ _ _ (hr.2 j y hy) _ _ _
theorem own_of_R (f : α → β) (hs : d.sz = r.sz) (hK : ∀ W b ok x cs, d.M W b ok x cs → ∀ S, r.K W S (f x) cs) (h : Kd.R d e W w0.heap.size (fun _ => True) v xs) (hB : Below w0.heap.size w0 W) : Mem w0 W [] [own r e v (xs.map f)] := by
  obtain ⟨_, cells, ho, hr⟩ := h; refine ⟨⟨⟨hB.os, hB.tape, hB.output, hB.size, fun k hk _ => hB.block k hk⟩, fun _ h => h.elim⟩, fun _ => False, fun k => w0.heap.size ≤ k ∧ k < W.heap.size, fun _ h => h.elim, fun _ h => .inr h.1, fun _ h => h.elim, fun _ h => h.elim, fun _ h => h.2, (fun a h => by cases h), ?_⟩; refine ⟨fun k => w0.heap.size ≤ k ∧ k < W.heap.size, fun _ => False, fun _ h => h, fun _ h => h.elim, fun _ _ h => h, ⟨fun k hk => ho.lt k hk, cells, ?_, ?_⟩, trivial⟩
  · rw [List.length_map, ← hs]
    exact ownsRow_base ho (fun _ _ => Nat.zero_le _)
  · refine ⟨by rw [List.length_map, ← hs]; exact hr.1, fun j p hj => ?_⟩
    rw [List.getElem?_map] at hj
    cases hx : xs[j]? with
    | none => rw [hx] at hj; cases hj
    | some x =>
      rw [hx] at hj; injection hj with hj; subst hj; rw [← hs]; exact hK _ _ _ _ _ (hr.2 j x hx) _
theorem K_slice (f : α → β) (hs : d.sz = r.sz) (h0 : 0 < r.sz) (hK : ∀ x cs, d.K w x cs → r.K w (· < w.heap.size) (f x) cs) (x : List α) (cs : List Value) (h : (Kd.slice e d).K w x cs) : (slice r).K w (· < w.heap.size) (x.map f) cs := by
  obtain ⟨A, c, rfl, hl, hr⟩ := h; exact ⟨A, c, by rw [List.length_map], by rw [List.length_map]; exact hl, row_of_C f hs h0 hK hr⟩
theorem K_slice_back (f : β → α) (hs : d.sz = r.sz) (hK : ∀ y cs, r.K w S y cs → d.K w (f y) cs) (y : List β) (cs : List Value) (h : (slice r).K w S y cs) : (Kd.slice e d).K w (y.map f) cs := by
  obtain ⟨A, c, rfl, hl, hr⟩ := h; exact ⟨A, c, by rw [List.length_map], by rw [List.length_map]; exact hl, C_len (List.length_map _) (C_of_row f hs hK hr)⟩
end
section
variable {w : World} {A : Option Addr} {S : Nat → Prop}
theorem rows_int {k : IntKind} {e n : Nat} {g : List (List Int)} (h : Kd.C (Kd.slice e (Kd.int k)) w A n g) : Row (slice (int k)) w (· < w.heap.size) A g := by
  have := row_of_C (r := slice (int k)) (fun x : List Int => x) rfl (show 0 < 1 by decide) (fun x cs hx => by simpa using K_slice (r := int k) (fun x : Int => x) rfl (show 0 < 1 by decide) (fun x cs h => h) x cs hx) h; simpa using this
theorem row_bool {n : Nat} {g : List Bool} (h : Kd.C Kd.bool w A n g) : Row bool w (· < w.heap.size) A g := by
  have := row_of_C (r := bool) (fun x : Bool => x) rfl (by decide) (fun x cs hx => hx) h; simpa using this
end
end Go.Proofs.Ytcagkdgpoijkoaa.Bridge
end
section
/- Plain: graphs, walks and steps (forward), without the program. -/
namespace Go.Proofs.Ytcagkdgpoijkoaa.FwP
set_option linter.unusedVariables false
set_option linter.unusedSimpArgs false
def hit (to_ : List Bool) (x : Int) : Bool := decide (0 ≤ x) && (decide (x < to_.length) && to_.getD x.toNat false)
def stepB (g : List (List Int)) (to_ : List Bool) : List Bool := g.map fun next => next.any (hit to_)
def stepN (g : List (List Int)) (to_ : List Bool) (k : Nat) : List Bool := stepB (g.take k) to_ ++ List.replicate (g.length - k) false
theorem stepN_zero (g : List (List Int)) (to_ : List Bool) : stepN g to_ 0 = List.replicate g.length false := by simp [stepN, stepB]
theorem stepN_all (g : List (List Int)) (to_ : List Bool) : stepN g to_ g.length = stepB g to_ := by simp [stepN]
theorem stepN_len (g : List (List Int)) (to_ : List Bool) (k : Nat) (h : k ≤ g.length) : (stepN g to_ k).length = g.length := by simp [stepN, stepB]; omega
theorem stepB_len (g : List (List Int)) (to_ : List Bool) : (stepB g to_).length = g.length := by simp [stepB]
theorem stepN_get (g : List (List Int)) (to_ : List Bool) (k : Nat) (h : k < g.length) : (stepN g to_ k)[k]? = some false := by
  (have hl : (stepB (g.take k) to_).length = k := by simp [stepB]; omega); rw [stepN, List.getElem?_append_right (by omega), hl, Nat.sub_self, List.getElem?_replicate, if_pos (by omega)]
theorem stepN_succ (g : List (List Int)) (to_ : List Bool) (k : Nat) (r : List Int) (hr : g[k]? = some r) : (stepN g to_ k).set k (r.any (hit to_)) = stepN g to_ (k + 1) := by
  have h : k < g.length := by
    rcases Nat.lt_or_ge k g.length with h1 | h1
    · exact h1
    · rw [List.getElem?_eq_none h1] at hr; cases hr
  (have hl : (stepB (g.take k) to_).length = k := by simp [stepB]; omega); rw [stepN, List.set_append_right _ _ (by omega), hl, Nat.sub_self, show g.length - k = (g.length - (k + 1)) + 1 by omega, List.replicate_succ, List.set_cons_zero, stepN, List.take_add_one, hr]; simp [stepB]
theorem set_same {α : Type} {l : List α} {k : Nat} {x : α} (h : l[k]? = some x) : l.set k x = l := by
  apply List.ext_getElem?; intro i; by_cases e : k = i
  · subst e
    rw [List.getElem?_set_self (by rcases Nat.lt_or_ge k l.length with h1 | h1; exact h1; rw [List.getElem?_eq_none h1] at h; cases h), h]
  · rw [List.getElem?_set_ne e]
theorem any_snoc {α : Type} (l : List α) (p : α → Bool) (j : Nat) (x : α) (hx : l[j]? = some x) : (l.take (j + 1)).any p = ((l.take j).any p || p x) := by
  rw [List.take_add_one, hx]; simp
theorem hit_in {to_ : List Bool} {x : Int} {y : Bool} (h0 : 0 ≤ x) (h1 : x < to_.length) (hy : to_[x.toNat]? = some y) : hit to_ x = y := by
  unfold hit; rw [decide_eq_true h0, decide_eq_true h1, List.getD_eq_getElem?_getD, hy]; rfl
theorem hit_out {to_ : List Bool} {x : Int} (h : ¬ (0 ≤ x ∧ x < to_.length)) : hit to_ x = false := by
  unfold hit; by_cases h0 : 0 ≤ x
  · have : ¬ x < to_.length := fun h1 => h ⟨h0, h1⟩
    simp [this]
  · simp [h0]
def stepI (g : List (List Int)) (to_ : List Bool) (k : Nat) (r : List Int) (j : Nat) : List Bool := (stepN g to_ k).set k ((r.take j).any (hit to_))
theorem stepI_zero (g : List (List Int)) (to_ : List Bool) (k : Nat) (r : List Int) (h : k < g.length) : stepI g to_ k r 0 = stepN g to_ k := by
  rw [stepI, List.take_zero, List.any_nil, set_same (stepN_get g to_ k h)]
theorem stepI_len (g : List (List Int)) (to_ : List Bool) (k : Nat) (r : List Int) (j : Nat) (h : k < g.length) : (stepI g to_ k r j).length = g.length := by
  rw [stepI, List.length_set, stepN_len g to_ k (by omega)]
theorem stepI_get (g : List (List Int)) (to_ : List Bool) (k : Nat) (r : List Int) (j : Nat) (h : k < g.length) : (stepI g to_ k r j)[k]? = some ((r.take j).any (hit to_)) := by
  rw [stepI, List.getElem?_set_self (by rw [stepN_len g to_ k (by omega)]; exact h)]
theorem stepI_set (g : List (List Int)) (to_ : List Bool) (k : Nat) (r : List Int) (j : Nat) (x : Int) (hx : r[j]? = some x) (c : Bool) (hc : c = ((r.take j).any (hit to_) || hit to_ x)) : (stepI g to_ k r j).set k c = stepI g to_ k r (j + 1) := by
  rw [stepI, stepI, List.set_set, any_snoc r (hit to_) j x hx, hc]
theorem stepI_all (g : List (List Int)) (to_ : List Bool) (k : Nat) (r : List Int) (hr : g[k]? = some r) : stepI g to_ k r r.length = stepN g to_ (k + 1) := by
  rw [stepI, List.take_length, stepN_succ g to_ k r hr]
def itB (g : List (List Int)) : Nat → List Bool → List Bool
  | 0, b => b
  | n + 1, b => stepB g (itB g n b)
theorem itB_len (g : List (List Int)) (b : List Bool) (h : b.length = g.length) : ∀ n, (itB g n b).length = g.length
  | 0 => h
  | n + 1 => stepB_len g _
def loopsB (g : List (List Int)) : List Bool := itB g g.length (List.replicate g.length true)
def trues (n k : Nat) : List Bool := List.replicate k true ++ List.replicate (n - k) false
theorem trues_zero (n : Nat) : trues n 0 = List.replicate n false := by simp [trues]
theorem trues_all (n : Nat) : trues n n = List.replicate n true := by simp [trues]
theorem trues_len (n k : Nat) (h : k ≤ n) : (trues n k).length = n := by simp [trues]; omega
theorem trues_get (n k : Nat) (h : k < n) : (trues n k)[k]? = some false := by
  rw [trues, List.getElem?_append_right (by simp), List.length_replicate, Nat.sub_self, List.getElem?_replicate, if_pos (by omega)]
theorem trues_succ (n k : Nat) (h : k < n) : (trues n k).set k true = trues n (k + 1) := by
  rw [trues, List.set_append_right _ _ (by simp), List.length_replicate, Nat.sub_self, show n - k = (n - (k + 1)) + 1 by omega, List.replicate_succ, List.set_cons_zero, trues, List.replicate_succ']; simp
def pad (n : Nat) (to_ : List Bool) : List Bool := to_.take n ++ List.replicate (n - to_.length) false
theorem pad_len (n : Nat) (to_ : List Bool) : (pad n to_).length = n := by simp [pad]; omega
theorem pad_of (n : Nat) (to_ : List Bool) : to_.take (List.replicate n false).length ++ (List.replicate n false).drop to_.length = pad n to_ := by simp [pad]
def orN (out st : List Bool) (k : Nat) : List Bool := List.zipWith (· || ·) (out.take k) (st.take k) ++ out.drop k
theorem orN_zero (out st : List Bool) : orN out st 0 = out := by simp [orN]
theorem orN_len (out st : List Bool) (k : Nat) (h : st.length = out.length) (hk : k ≤ out.length) : (orN out st k).length = out.length := by simp [orN]; omega
theorem orN_get (out st : List Bool) (k : Nat) (b : Bool) (h : st.length = out.length) (hb : out[k]? = some b) : (orN out st k)[k]? = some b := by
  have hk : k < out.length := by
    rcases Nat.lt_or_ge k out.length with h1 | h1
    · exact h1
    · rw [List.getElem?_eq_none h1] at hb; cases hb
  (have hl : (List.zipWith (· || ·) (out.take k) (st.take k)).length = k := by simp; omega); rw [orN, List.getElem?_append_right (by omega), hl, Nat.sub_self, List.getElem?_drop, Nat.add_zero, hb]
theorem orN_succ (out st : List Bool) (k : Nat) (b c : Bool) (h : st.length = out.length) (hb : out[k]? = some b) (hc : st[k]? = some c) : (orN out st k).set k (b || c) = orN out st (k + 1) := by
  have hk : k < out.length := by
    rcases Nat.lt_or_ge k out.length with h1 | h1
    · exact h1
    · rw [List.getElem?_eq_none h1] at hb; cases hb
  have hl : (List.zipWith (· || ·) (out.take k) (st.take k)).length = k := by simp; omega
  have hd : out.drop k = b :: out.drop (k + 1) := by
    rw [List.drop_eq_getElem_cons hk]; congr 1; rw [List.getElem?_eq_getElem hk] at hb; injection hb
  rw [orN, List.set_append_right _ _ (by omega), hl, Nat.sub_self, hd, List.set_cons_zero, orN, List.take_add_one, List.take_add_one, hb, hc]; rw [List.zipWith_append (by simp; omega)]; simp
theorem orN_all (out st : List Bool) (h : st.length = out.length) : orN out st out.length = List.zipWith (· || ·) out st := by
  rw [orN, List.take_length, ← h, List.take_length, h, List.drop_length, List.append_nil]
def orB (out st : List Bool) : List Bool := List.zipWith (· || ·) out st
theorem orB_len (out st : List Bool) (h : st.length = out.length) : (orB out st).length = out.length := by simp [orB, h]
def reachIt (g : List (List Int)) : Nat → List Bool → List Bool
  | 0, b => b
  | n + 1, b => orB (reachIt g n b) (stepB g (reachIt g n b))
theorem reachIt_len (g : List (List Int)) (b : List Bool) (h : b.length = g.length) : ∀ n, (reachIt g n b).length = g.length
  | 0 => h
  | n + 1 => by rw [reachIt, orB_len _ _ (by rw [stepB_len, reachIt_len g b h n]), reachIt_len g b h n]
def reachB (g : List (List Int)) (to_ : List Bool) : List Bool := reachIt g g.length (pad g.length to_)
def hopRow (g : List (List Int)) (p : List Bool) (k n : Nat) : List Int := ((List.range n).filter fun i => (itB g i p).getD k false).map Int.ofNat
theorem hopRow_succ (g : List (List Int)) (p : List Bool) (k n : Nat) (b : Bool) (hb : (itB g n p)[k]? = some b) : hopRow g p k (n + 1) = hopRow g p k n ++ (if b then [(n : Int)] else []) := by
  rw [hopRow, List.range_succ, List.filter_append, List.map_append, hopRow]; congr 1; simp [List.filter_cons, List.getD_eq_getElem?_getD, hb]; cases b <;> simp
theorem hopRow_true (g : List (List Int)) (p : List Bool) (k n : Nat) (hb : (itB g n p)[k]? = some true) : hopRow g p k (n + 1) = hopRow g p k n ++ [(n : Int)] := by
  rw [hopRow_succ g p k n true hb]; rfl
theorem hopRow_len (g : List (List Int)) (p : List Bool) (k n : Nat) : (hopRow g p k n).length ≤ n := by
  rw [hopRow, List.length_map]; have := List.length_filter_le (fun i => (itB g i p).getD k false) (List.range n); simpa using this
def hopsI (g : List (List Int)) (p : List Bool) (n j : Nat) : List (List Int) := (List.range g.length).map fun k => hopRow g p k (if k < j then n + 1 else n)
theorem hopsI_len (g : List (List Int)) (p : List Bool) (n j : Nat) : (hopsI g p n j).length = g.length := by simp [hopsI]
theorem hopsI_get (g : List (List Int)) (p : List Bool) (n j : Nat) (h : j < g.length) : (hopsI g p n j)[j]? = some (hopRow g p j n) := by
  simp [hopsI, h]
theorem hopsI_next (g : List (List Int)) (p : List Bool) (n j : Nat) (h : j < g.length) : (hopsI g p n j).set j (hopRow g p j (n + 1)) = hopsI g p n (j + 1) := by
  apply List.ext_getElem
  · simp [hopsI]
  · intro i h1 h2
    simp only [hopsI, List.getElem_set, List.getElem_map, List.getElem_range]; by_cases e : j = i
    · subst e; simp
    · rw [if_neg e]
      congr 1; by_cases e2 : i < j
      · rw [if_pos e2, if_pos (by omega)]
      · rw [if_neg e2, if_neg (by omega)]
theorem hopsI_same (g : List (List Int)) (p : List Bool) (n j : Nat) (h : j < g.length) (hb : (itB g n p)[j]? = some false) : hopsI g p n j = hopsI g p n (j + 1) := by
  rw [← hopsI_next g p n j h, hopRow_succ g p j n false hb]; simp only [Bool.false_eq_true, if_false, List.append_nil]; rw [set_same (hopsI_get g p n j h)]
theorem hopsI_all (g : List (List Int)) (p : List Bool) (n : Nat) : hopsI g p n g.length = hopsI g p (n + 1) 0 := by
  simp only [hopsI]; apply List.map_congr_left; intro k hk; rw [if_pos (by simpa using hk), if_neg (by omega)]
theorem hopsI_zero (g : List (List Int)) (p : List Bool) : hopsI g p 0 0 = List.replicate g.length [] := by
  apply List.ext_getElem
  · simp [hopsI]
  · intro i h1 h2; simp [hopsI, hopRow]
def hopsB (g : List (List Int)) (to_ : List Bool) (most : Int) : List (List Int) := hopsI g (pad g.length to_) (min most 256 + 1).toNat 0
end Go.Proofs.Ytcagkdgpoijkoaa.FwP
end
section
namespace Go.Proofs.Ytcagkdgpoijkoaa.Fw
open Go.RowKit Go.Proofs.Ytcagkdgpoijkoaa.Mq Go.Proofs.Ytcagkdgpoijkoaa.FwP
set_option linter.unusedVariables false
set_option linter.unusedSimpArgs false
attribute [local go_sem] max2_int min2_int max_two min_two
theorem info_bool : (Try.prog.info? 4).map (fun i => (i.zero, i.size, i.bytes)) = some (some (.bool false), 1, 1) := by kernel_rfl
theorem info_int : (Try.prog.info? 3).map (fun i => (i.zero, i.size, i.bytes)) = some (some (.int .i64 0), 1, 8) := by kernel_rfl
theorem info_ints : (Try.prog.info? 29).map (fun i => (i.zero, i.size, i.bytes)) = some (some (.slice none 0 0), 1, 24) := by kernel_rfl
set_option maxHeartbeats 1000000 in
set_option maxRecDepth 100000 in
theorem step_calls {w : World} {A0 A1 : Option Addr} {g : List (List Int)} {to_ : List Bool} {c0 c1 : Nat} (hg : Row (slice (int .i64)) w (· < w.heap.size) A0 g) (hto : Row bool w (· < w.heap.size) A1 to_) (hgl : g.length ≤ 281474976710656) :
    Calls Try.prog 29 #[.slice A0 g.length c0, .slice A1 to_.length c1] w fun e W => ∃ v, e = .returned v ∧ Mem w W [] [own bool 4 v (stepB g to_)] := by
  have H := MemM.start w; go_enter Try.func29, Try.ntmps29; go_wp2_with (first | ((with_reducible refine gate_dst (N := 12) rfl ?_); refine wp_make H bool 4 rfl 28 _ _ rfl g.length rfl rfl Try.underlying28 (.bool false) 1 info_bool rfl (by decide) (by decide) false (fun _ => rfl) (by omega) ?_; clear H; intro g5 W5 H)); rw [← stepN_zero g to_] at H; go_loopw [15] (fun v15 W => ∃ k : Nat, k ≤ g.length ∧ v15 = .int .i64 k ∧ Mem w W [] [own bool 4 (.slice (some ⟨g5, 0, none⟩) g.length g.length) (stepN g to_ k)]) (fun v15 _ => g.length - (intOf v15).toNat)
  case atStart => exact ⟨0, Nat.zero_le _, rfl, H⟩
  case round =>
    clear H; obtain ⟨k, hk, rfl, H⟩ := hrel; by_cases hlt : k < g.length
    · obtain ⟨r, hr⟩ : ∃ r, g[k]? = some r := ⟨_, List.getElem?_eq_getElem hlt⟩
      obtain ⟨ad, A2, c2, rfl, hx0, hc2, hrow⟩ := H.row_at hg hr; have hrm := hrow.len; unfold maxLen at hrm; go_wp2; go_loopw [22] (fun v22 W => ∃ j : Nat, j ≤ r.length ∧ v22 = .int .i64 j ∧ Mem w W [] [own bool 4 (.slice (some ⟨g5, 0, none⟩) g.length g.length) (stepI g to_ k r j)]) (fun v22 _ => r.length - (intOf v22).toNat)
      case atStart => exact ⟨0, Nat.zero_le _, rfl, by rw [stepI_zero g to_ k r hlt]; exact H⟩
      case round =>
        clear H hx0; obtain ⟨j, hj, rfl, H⟩ := hrel; by_cases hjl : j < r.length
        · obtain ⟨x, hxj⟩ : ∃ x, r[j]? = some x := ⟨_, List.getElem?_eq_getElem hjl⟩
          obtain ⟨ad2, rfl, hx0⟩ := H.int_at hrow hxj; obtain ⟨hc0, hfz⟩ := H.bool_cell (.head _) (stepI_get g to_ k r j hlt); (have fin := fun c hc => stepI_set g to_ k r j x hxj c hc); (have HF := fun c => H.setB (i := k) (by rw [stepI_len g to_ k r j hlt]; exact hlt) c); obtain ⟨b, hb⟩ : ∃ b, (r.take j).any (hit to_) = b := ⟨_, rfl⟩; rw [hb] at hc0 fin; clear hb; have fin := hide fin; by_cases hin : 0 ≤ x ∧ x < to_.length
          · obtain ⟨h0, h1⟩ := hin
            obtain ⟨y, hy⟩ : ∃ y, to_[x.toNat]? = some y := ⟨_, List.getElem?_eq_getElem (by omega)⟩; obtain ⟨ad1, rfl, hx1⟩ := H.bool_at hto hy; have hv : Hid (hit to_ x = y) := hit_in h0 h1 hy; clear hy; cases b
            all_goals
              go_wp2; go_roundw
              case rel => exact ⟨j + 1, by omega, by go_num, by rw [← fin.out _ (by rw [hv.out]; try rfl)]; exact HF _⟩
              case measure => simp [intOf]; omega
          · have hv : Hid (hit to_ x = false) := hit_out hin
            by_cases h0 : 0 ≤ x
            · have h1 : ¬ x < to_.length := fun h => hin ⟨h0, h⟩
              cases b
              all_goals
                go_wp2; go_roundw
                case rel => exact ⟨j + 1, by omega, by go_num, by rw [← fin.out _ (by rw [hv.out]; try rfl)]; exact HF _⟩
                case measure => simp [intOf]; omega
            · cases b
              all_goals
                go_wp2; go_roundw
                case rel => exact ⟨j + 1, by omega, by go_num, by rw [← fin.out _ (by rw [hv.out]; try rfl)]; exact HF _⟩
                case measure => simp [intOf]; omega
        · obtain rfl : j = r.length := by omega
          rw [stepI_all g to_ k r hr] at H; go_wp2; go_roundw
          case rel => exact ⟨k + 1, by omega, by go_num, H⟩
          case measure => simp [intOf]; omega
    · obtain rfl : k = g.length := by omega
      rw [stepN_all] at H; go_wp2; go_ret; exact ⟨_, rfl, H⟩
theorem step_calls' {w : World} {A0 A1 : Option Addr} {g : List (List Int)} {to_ : List Bool} {c0 c1 n : Nat} (hn : n = to_.length) (hg : Row (slice (int .i64)) w (· < w.heap.size) A0 g) (hto : Row bool w (· < w.heap.size) A1 to_) (hgl : g.length ≤ 281474976710656) :
    Calls Try.prog 29 #[.slice A0 g.length c0, .slice A1 n c1] w fun e W => ∃ v, e = .returned v ∧ Mem w W [] [own bool 4 v (stepB g to_)] := by
  subst hn; exact step_calls hg hto hgl
set_option maxHeartbeats 1000000 in
set_option maxRecDepth 100000 in
theorem loops_calls {w : World} {A0 : Option Addr} {g : List (List Int)} {c0 : Nat} (hg : Row (slice (int .i64)) w (· < w.heap.size) A0 g) (hgl : g.length ≤ 281474976710656) :
    Calls Try.prog 16 #[.slice A0 g.length c0] w fun e W => ∃ v, e = .returned v ∧ Mem w W [] [own bool 4 v (loopsB g)] := by
  have H := MemM.start w; go_enter Try.func16, Try.ntmps16; go_wp2_with (first | ((with_reducible refine gate_dst (N := 7) rfl ?_); refine wp_make H bool 4 rfl 28 _ _ rfl g.length rfl rfl Try.underlying28 (.bool false) 1 info_bool rfl (by decide) (by decide) false (fun _ => rfl) (by omega) ?_; clear H; intro g5 W5 H)); rw [← trues_zero] at H; go_loopw [10] (fun v10 W => ∃ k : Nat, k ≤ g.length ∧ v10 = .int .i64 k ∧ Mem w W [] [own bool 4 (.slice (some ⟨g5, 0, none⟩) g.length g.length) (trues g.length k)]) (fun v10 _ => g.length - (intOf v10).toNat)
  case atStart => exact ⟨0, Nat.zero_le _, rfl, H⟩
  case round =>
    clear H; obtain ⟨k, hk, rfl, H⟩ := hrel; by_cases hlt : k < g.length
    · obtain ⟨hc0, hfz⟩ := H.bool_cell (.head _) (trues_get g.length k hlt)
      have HF := H.setB (i := k) (by rw [trues_len g.length k hk]; exact hlt) true; rw [trues_succ g.length k hlt] at HF; go_wp2; go_roundw
      case rel => exact ⟨k + 1, by omega, by go_num, HF⟩
      case measure => simp [intOf]; omega
    · obtain rfl : k = g.length := by omega
      rw [trues_all] at H; go_wp2; go_loopw [3, 19] (fun v3 v19 W => ∃ k : Nat, k ≤ g.length ∧ v19 = .int .i64 k ∧ Mem w W [] [own bool 4 v3 (itB g k (List.replicate g.length true))]) (fun _ v19 _ => g.length - (intOf v19).toNat)
      case atStart => exact ⟨0, Nat.zero_le _, rfl, H⟩
      case round =>
        clear H; obtain ⟨k, hk, rfl, H⟩ := hrel; by_cases hlt : k < g.length
        · obtain ⟨A3, c3, rfl, -, hb⟩ := H.rd (.head _)
          go_wp2_with (go_at_call 29; refine (step_calls (H.arg hg) hb hgl).mono ?_; rintro e W1 ⟨v, rfl, hm⟩; have H := (H.call hm).pull1.drop; clear hm); go_roundw
          case rel => exact ⟨k + 1, by omega, by go_num, H⟩
          case measure => simp [intOf]; omega
        · obtain rfl : k = g.length := by omega
          go_wp2; go_ret; exact ⟨_, rfl, H⟩
set_option maxHeartbeats 1000000 in
set_option maxRecDepth 100000 in
theorem reach_calls {w : World} {A0 A1 : Option Addr} {g : List (List Int)} {to_ : List Bool} {c0 c1 : Nat} (hg : Row (slice (int .i64)) w (· < w.heap.size) A0 g) (hto : Row bool w (· < w.heap.size) A1 to_) (hgl : g.length ≤ 281474976710656) :
    Calls Try.prog 15 #[.slice A0 g.length c0, .slice A1 to_.length c1] w fun e W => ∃ v, e = .returned v ∧ Mem w W [] [own bool 4 v (reachB g to_)] := by
  have H := MemM.start w; go_enter Try.func15, Try.ntmps15; go_wp2_with (first | ((with_reducible refine gate_dst (N := 10) rfl ?_); refine wp_make H bool 4 rfl 28 _ _ rfl g.length rfl rfl Try.underlying28 (.bool false) 1 info_bool rfl (by decide) (by decide) false (fun _ => rfl) (by omega) ?_; clear H; intro g5 W5 H) | ((with_reducible refine gate_dst (N := 13) rfl ?_); refine wp_copy H rfl _ _ _ _ rfl Try.underlying28 (by kernel_rfl) rfl (fun h => h) to_ A1 c1 rfl rfl (H.arg hto) ?_; clear H; intro W6 H)); rw [pad_of] at H; have hpl := hide (pad_len g.length to_); go_loopw [16] (fun v16 W => ∃ k : Nat, k ≤ g.length ∧ v16 = .int .i64 k ∧ Mem w W [] [own bool 4 (.slice (some ⟨g5, 0, none⟩) g.length g.length) (reachIt g k (pad g.length to_))]) (fun v16 _ => g.length - (intOf v16).toNat)
  case atStart => exact ⟨0, Nat.zero_le _, rfl, H⟩
  case round =>
    clear H; obtain ⟨k, hk, rfl, H⟩ := hrel; by_cases hlt : k < g.length
    · have hl := hide (reachIt_len g _ hpl.out k)
      have hs := hide (show (stepB g (reachIt g k (pad g.length to_))).length = (reachIt g k (pad g.length to_)).length by rw [stepB_len, hl.out]); have hnx : Hid (reachIt g (k + 1) (pad g.length to_) = orB (reachIt g k (pad g.length to_)) (stepB g (reachIt g k (pad g.length to_)))) := rfl; obtain ⟨out, hout⟩ : ∃ out, reachIt g k (pad g.length to_) = out := ⟨_, rfl⟩; rw [hout] at H hl hs hnx; clear hout; obtain ⟨-, -, hb⟩ := H.rdx (.head _); go_wp2_with (go_at_call 29; refine (step_calls' (hl.out.symm) (H.arg hg) hb hgl).mono ?_; rintro e W1 ⟨v, rfl, hm⟩; have H := (H.call hm).pull1; clear hm hb; obtain ⟨A4, c4, rfl, -, -⟩ := H.rd (.tail _ (.head _))); have hz := hide (orN_zero out (stepB g out)); rw [← hz.out] at H; go_loopw [22] (fun v22 W => ∃ j : Nat, j ≤ out.length ∧ v22 = .int .i64 j ∧ Mem w W [] [own bool 4 (.slice (some ⟨g5, 0, none⟩) g.length g.length) (orN out (stepB g out) j), own bool 4 (.slice A4 (stepB g out).length c4) (stepB g out)]) (fun v22 _ => out.length - (intOf v22).toNat)
      case atStart => exact ⟨0, Nat.zero_le _, rfl, H⟩
      case round =>
        clear H; obtain ⟨j, hj, rfl, H⟩ := hrel; by_cases hjl : j < out.length
        · obtain ⟨b, hb⟩ : ∃ b, out[j]? = some b := ⟨_, List.getElem?_eq_getElem hjl⟩
          obtain ⟨c, hc⟩ : ∃ c, (stepB g out)[j]? = some c := ⟨_, List.getElem?_eq_getElem (by rw [hs.out]; exact hjl)⟩; obtain ⟨hc0, hfz⟩ := H.bool_cell (.head _) (orN_get out _ j b hs.out hb); obtain ⟨-, -, hrow⟩ := H.rdx (.tail _ (.head _)); obtain ⟨ad4, cs, rfl, -, rfl, hx⟩ := hrow.at_ hc; have hx0 := hx 0 _ rfl; rw [show (Mq.bool).sz = 1 from rfl, Nat.mul_one, Nat.add_zero] at hx0; have HF := H.setB (i := j) (by rw [orN_len out _ j hs.out hj]; exact hjl) (b || c); rw [orN_succ out _ j b c hs.out hb hc] at HF; (have h1 : j < (stepB g out).length := by rw [hs.out]; exact hjl); (have h2 : j < g.length := by rw [← hl.out]; exact hjl); clear hx hrow hb hc; cases b
          all_goals
            go_wp2; go_roundw
            case rel => exact ⟨j + 1, by omega, by go_num, HF⟩
            case measure => simp [intOf]; omega
        · obtain rfl : j = out.length := by omega
          have H := H; rw [orN_all out _ hs.out] at H; (have h1 : ¬ out.length < (stepB g out).length := by rw [hs.out]; omega); go_wp2; go_roundw
          case rel => exact ⟨k + 1, by omega, by go_num, by rw [hnx.out]; exact H.pull1.drop⟩
          case measure => simp [intOf]; omega
    · obtain rfl : k = g.length := by omega
      go_wp2; go_ret; exact ⟨_, rfl, H⟩
set_option maxHeartbeats 1000000 in
set_option maxRecDepth 100000 in
theorem hops_calls {w : World} {A0 A1 : Option Addr} {g : List (List Int)} {to_ : List Bool} {most : Int} {c0 c1 : Nat} (hg : Row (slice (int .i64)) w (· < w.heap.size) A0 g) (hto : Row bool w (· < w.heap.size) A1 to_) (hgl : g.length ≤ 1000000000) :
    Calls Try.prog 19 #[.slice A0 g.length c0, .slice A1 to_.length c1, .int .i64 most] w fun e W => ∃ v, e = .returned v ∧ Mem w W [] [own (slice (int .i64)) 29 v (hopsB g to_ most)] := by
  have H := MemM.start w; go_enter Try.func19, Try.ntmps19; go_wp2_with (first | ((with_reducible refine gate_dst (N := 14) rfl ?_); refine wp_make H raw 29 rfl 43 _ _ rfl g.length rfl rfl Try.underlying43 (.slice none 0 0) 24 info_ints rfl (by decide) (by decide) nilCell (fun _ => rfl) (by omega) ?_; clear H; intro g7 W7 H) | ((with_reducible refine gate_dst (N := 17) rfl ?_); refine wp_make H bool 4 rfl 28 _ _ rfl g.length rfl rfl Try.underlying28 (.bool false) 1 info_bool rfl (by decide) (by decide) false (fun _ => rfl) (by omega) ?_; clear H; intro g8 W8 H) | ((with_reducible refine gate_dst (N := 20) rfl ?_); refine wp_copy H rfl _ _ _ _ rfl Try.underlying28 (by kernel_rfl) rfl (fun h => h) to_ A1 c1 rfl rfl (H.arg hto) ?_; clear H; intro W6 H)); rw [pad_of] at H; have H := (MemM.nilRows H.pull1 (int .i64) 3 g.length).pull; have hp := hide (pad_len g.length to_); have hdef : Hid (hopsB g to_ most = hopsI g (pad g.length to_) (min most 256 + 1).toNat 0) := rfl; obtain ⟨p, hpd⟩ : ∃ p, pad g.length to_ = p := ⟨_, rfl⟩; rw [hpd] at H hp hdef; clear hpd; rw [← hopsI_zero g p] at H; (have hM : (min most 256 + 1).toNat ≤ 257 := by omega); obtain ⟨M, hMd⟩ : ∃ M, (min most 256 + 1).toNat = M := ⟨_, rfl⟩; have hMd := hide hMd; rw [hMd.out] at hM hdef; go_loopw [8, 9] (fun v8 v9 W => ∃ (n : Nat) (vs : List Cell), n ≤ M ∧ v9 = .int .i64 n ∧ Hid (vs.length = g.length) ∧ Mem w W [] (own raw 29 (.slice (some ⟨g7, 0, none⟩) g.length g.length) vs :: (rowsOf (int .i64) 3 vs (hopsI g p n 0) ++ [own bool 4 v8 (itB g n p)]))) (fun _ v9 _ => M - (intOf v9).toNat)
  case atStart => exact ⟨0, _, Nat.zero_le _, rfl, by simp [Hid], H⟩
  case round =>
    clear H; obtain ⟨n, vs, hn, rfl, hvs, H⟩ := hrel; by_cases hlt : n < M
    · have htest : (n : Int) ≤ min most 256 := by have := hMd.out; omega
      have hl := hide (itB_len g p hp.out n); have hnx : Hid (itB g (n + 1) p = stepB g (itB g n p)) := rfl; have hrow := hide (fun k (hb : (itB g n p)[k]? = some true) => hopRow_true g p k n hb); have hsame := hide (fun k (hk : k < g.length) (hb : (itB g n p)[k]? = some false) => hopsI_same g p n k hk hb); obtain ⟨now, hnow⟩ : ∃ now, itB g n p = now := ⟨_, rfl⟩; rw [hnow] at H hl hnx hrow hsame; clear hnow; obtain ⟨A8, c8, rfl, -, -⟩ := H.rd (List.mem_cons_of_mem _ (List.mem_append_right _ (.head _))); go_wp2; go_loopw [29] (fun v29 W => ∃ (j : Nat) (vs : List Cell), j ≤ now.length ∧ v29 = .int .i64 j ∧ Hid (vs.length = g.length) ∧ Mem w W [] (own raw 29 (.slice (some ⟨g7, 0, none⟩) g.length g.length) vs :: (rowsOf (int .i64) 3 vs (hopsI g p n j) ++ [own bool 4 (.slice A8 now.length c8) now]))) (fun v29 _ => now.length - (intOf v29).toNat)
      case atStart => exact ⟨0, vs, Nat.zero_le _, rfl, hvs, H⟩
      case round =>
        clear H hvs; obtain ⟨j, vs, hj, rfl, hvs, H⟩ := hrel; by_cases hjl : j < now.length
        · have hjg : j < g.length := by have := hl.out; omega
          obtain ⟨b, hb⟩ : ∃ b, now[j]? = some b := ⟨_, List.getElem?_eq_getElem hjl⟩; obtain ⟨-, -, hnr⟩ := H.rdx (List.mem_cons_of_mem _ (List.mem_append_right _ (.head _))); obtain ⟨ad8, cs, rfl, -, rfl, hx⟩ := hnr.at_ hb; have hx0 := hx 0 _ rfl; rw [show (Mq.bool).sz = 1 from rfl, Nat.mul_one, Nat.add_zero] at hx0; clear hx hnr; cases b
          · have hs := hsame.out j hjg hb
            have hs := hide hs; clear hb; go_wp2; go_roundw
            case rel => exact ⟨j + 1, vs, by omega, by go_num, hvs, by rw [← hs.out]; exact H⟩
            case measure => simp [intOf]; omega
          · have hrs := hide (hrow.out j hb)
            have hln := hopRow_len g p j n; have hget := hide (hopsI_get g p n j hjg); have hnext := hide (hopsI_next g p n j hjg); clear hb; obtain ⟨xs, hxs⟩ : ∃ xs, hopRow g p j n = xs := ⟨_, rfl⟩; rw [hxs] at hrs hln hget; clear hxs; obtain ⟨⟨v, hv1⟩, hv⟩ : ∃ v, vs[j]? = some v := ⟨_, List.getElem?_eq_getElem (by rw [hvs.out]; exact hjg)⟩; obtain ⟨l1, l2, e1, e2⟩ := rowsOf_split (int .i64) 3 (by rw [hvs.out, hopsI_len]) hv hget.out; have e2 := hide e2; have hvv := hide hv; rw [e1] at H; clear e1 hv; obtain ⟨A, c, rfl⟩ := H.one (d := int .i64) (e := 3) (v := v) (xs := xs) (by simp); obtain ⟨u, hu, hc0, hf0⟩ := H.cell1 (.head _) hvv.out; cases hu; rw [show ∀ (a b c : Asr) (l1 l2 : List Asr), a :: (l1 ++ b :: l2 ++ [c]) = (a :: l1) ++ b :: (l2 ++ [c]) from fun a b c l1 l2 => by simp] at H; have H := H.pull; go_wp2_with (first | ((with_reducible refine gate_dst (N := 43) rfl ?_); refine wp_append H rfl _ _ _ (.int .i64 0) 8 rfl Try.underlying29 info_int rfl (by decide) (by decide) (n : Int) [.int .i64 n] rfl rfl (fun _ _ => rfl) (by omega) ?_; clear H hc0 hf0; intro v1 W1 H; obtain ⟨A1', c1', rfl⟩ := H.one (.head _); obtain ⟨u, hu, hc1, hf1⟩ := H.cell1 (.tail _ (.head _)) hvv.out; clear hu)); have H := H.push (l1 := own raw 29 (.slice (some ⟨g7, 0, none⟩) g.length g.length) vs :: l1); rw [List.length_append, List.length_singleton] at H; have H := MemM.set1 (l := l1 ++ own (int .i64) 3 (.slice A1' (xs.length + 1) c1') (xs ++ [(n : Int)]) :: (l2 ++ [own bool 4 (.slice (some ad8) now.length c8) now])) H (i := j) (by rw [hvs.out]; exact hjg) (x' := slCell A1' (xs.length + 1) c1') (u := .slice A1' (xs.length + 1) c1') (fun _ _ => rfl); rw [← hrs.out, show ∀ (b c : Asr) (l1 l2 : List Asr), l1 ++ b :: (l2 ++ [c]) = l1 ++ b :: l2 ++ [c] from fun b c l1 l2 => by simp] at H; have e3 := e2.out (slCell A1' (xs.length + 1) c1') (hopRow g p j (n + 1)); rw [hnext.out] at e3; go_roundw
            case rel => exact ⟨j + 1, vs.set j (slCell A1' (xs.length + 1) c1'), by omega, by go_num, by rw [Hid, List.length_set]; exact hvs, by rw [e3]; exact H⟩
            case measure => simp [intOf]; omega
        · obtain rfl : j = now.length := by omega
          rw [hl.out, hopsI_all] at H; obtain ⟨-, -, hb⟩ := H.rdx (List.mem_cons_of_mem _ (List.mem_append_right _ (.head _))); go_wp2_with (go_at_call 29; refine (step_calls' rfl (H.arg hg) hb (by omega)).mono ?_; rintro e W1 ⟨v, rfl, hm⟩; have H := (H.call hm).swapLast; clear hm hb; rw [← hnx.out] at H); go_roundw
          case rel => exact ⟨n + 1, vs, by omega, by go_num, hvs, H⟩
          case measure => simp [intOf]; omega
    · obtain rfl : n = M := by omega
      (have htest : ¬ (n : Int) ≤ min most 256 := by have := hMd.out; omega); rw [← hdef.out] at H; go_wp2; go_ret; exact ⟨_, rfl, (MemM.nest (d := int .i64) (by decide) (by rw [hvs.out, hdef.out, hopsI_len]) H).pull1.drop⟩
end Go.Proofs.Ytcagkdgpoijkoaa.Fw
end
section
namespace Go.Proofs.Ytcagkdgpoijkoaa.Mq
open Go.RowKit
set_option linter.unusedVariables false
abbrev Str := List UInt8
structure Pf where
  addr : Int
  bits : Int
  deriving DecidableEq
def Pf.enc (p : Pf) : List Value := [.int .u32 p.addr, .int .i64 p.bits]
def pfR : Rep Pf := flat 2 Pf.enc (fun _ => rfl) (fun x u hu => by simp [Pf.enc] at hu; rcases hu with rfl | rfl <;> rfl)
structure Cl where
  any : Bool
  pre : Pf
  wth : Int
  out : Int
  drop : Bool
  set : Int
  clr : Int
  more : Int
  pref : Int
  deriving DecidableEq
def Cl.enc (c : Cl) : List Value := [.bool c.any, .int .u32 c.pre.addr, .int .i64 c.pre.bits, .int .u8 c.wth, .int .u8 c.out, .bool c.drop, .int .u8 c.set, .int .u8 c.clr, .int .i64 c.more, .int .i64 c.pref]
def clR : Rep Cl := flat 10 Cl.enc (fun _ => rfl) (fun x u hu => by simp [Cl.enc] at hu; rcases hu with rfl | rfl | rfl | rfl | rfl | rfl | rfl | rfl | rfl | rfl <;> rfl)
structure Lk where
  peer : Str
  cost : Int
  imp : Str
  exp : Str
  at_ : Int
  deriving DecidableEq
def Lk.enc (l : Lk) : List Value := [.string (bs l.peer), .int .i64 l.cost, .string (bs l.imp), .string (bs l.exp), .int .i64 l.at_]
def lkR : Rep Lk := flat 5 Lk.enc (fun _ => rfl) (fun x u hu => by simp [Lk.enc] at hu; rcases hu with rfl | rfl | rfl | rfl | rfl <;> rfl)
structure Wy where
  pre : Pf
  via : Str
  at_ : Int
  deriving DecidableEq
def Wy.enc (l : Wy) : List Value := [.int .u32 l.pre.addr, .int .i64 l.pre.bits, .string (bs l.via), .int .i64 l.at_]
def wyR : Rep Wy := flat 4 Wy.enc (fun _ => rfl) (fun x u hu => by simp [Wy.enc] at hu; rcases hu with rfl | rfl | rfl | rfl <;> rfl)
structure Rt where
  name : Str
  nets : List Pf
  links : List Lk
  ways : List Wy
  at_ : Int
def Rt.leaves (r : Rt) : List Leaf := [.val (.string (bs r.name)), .row pfR r.nets, .row lkR r.links, .row wyR r.ways, .val (.int .i64 r.at_)]
def rtR : Rep Rt := strct 5 Rt.leaves (fun _ => rfl) (fun x l hl => by simp [Rt.leaves] at hl; rcases hl with rfl | rfl | rfl | rfl | rfl <;> first | trivial | rfl)
structure Mp where
  name : Str
  clauses : List Cl
  at_ : Int
def Mp.leaves (m : Mp) : List Leaf := [.val (.string (bs m.name)), .row clR m.clauses, .val (.int .i64 m.at_)]
def mpR : Rep Mp := strct 3 Mp.leaves (fun _ => rfl) (fun x l hl => by simp [Mp.leaves] at hl; rcases hl with rfl | rfl | rfl <;> first | trivial | rfl)
structure Ed where
  frm : Int
  cost : Int
  exp : List Cl
  imp : List Cl
def Ed.leaves (e : Ed) : List Leaf := [.val (.int .i64 e.frm), .val (.int .i64 e.cost), .row clR e.exp, .row clR e.imp]
def edR : Rep Ed := strct 4 Ed.leaves (fun _ => rfl) (fun x l hl => by simp [Ed.leaves] at hl; rcases hl with rfl | rfl | rfl | rfl <;> first | trivial | rfl)
structure Cf where
  maps : List Mp
  routers : List Rt
structure Nt where
  origin : List Bool
  static : List Int
  edges : List (List Ed)
section
variable {w : World} {S : Nat → Prop} {A : Option Addr}
theorem Row.flat1 {α : Type} {sz : Nat} {enc : α → List Value} {h1 : ∀ x, (enc x).length = sz} {h2 : ∀ x, ∀ u ∈ enc x, u.oneCell' = true} {xs : List α} (h : Row (flat sz enc h1 h2) w S A xs) {i : Nat} {x : α} (hx : xs[i]? = some x) :
    ∃ ad, A = some ad ∧ ∀ (j : Nat) u, (enc x)[j]? = some u → w.cell? (ad.add (i * sz + j)) = some u := by
  obtain ⟨ad, cs, e, _, hK, hc⟩ := h.at_ hx
  cases hK
  exact ⟨ad, e, hc⟩
theorem Row.mp1 {xs : List Mp} (h : Row mpR w S A xs) {i : Nat} {m : Mp} (hx : xs[i]? = some m) :
    ∃ ad A1 n, A = some ad ∧ (∀ (j : Nat) u, [Value.string (bs m.name), .slice A1 m.clauses.length n, .int .i64 m.at_][j]? = some u → w.cell? (ad.add (i * 3 + j)) = some u) ∧ Row clR w S A1 m.clauses := by
  obtain ⟨ad, cs, e, _, hK, hc⟩ := h.at_ hx
  obtain ⟨_, _, rfl, rfl, _, _, rfl, ⟨A1, n, rfl, h2, h3⟩, _, _, rfl, rfl, rfl⟩ := hK
  exact ⟨ad, A1, n, e, hc, h3⟩
theorem Row.rt1 {xs : List Rt} (h : Row rtR w S A xs) {i : Nat} {r : Rt} (hx : xs[i]? = some r) :
    ∃ ad A1 n1 A2 n2 A3 n3, A = some ad ∧ (∀ (j : Nat) u, [Value.string (bs r.name), .slice A1 r.nets.length n1, .slice A2 r.links.length n2, .slice A3 r.ways.length n3, .int .i64 r.at_][j]? = some u → w.cell? (ad.add (i * 5 + j)) = some u) ∧ Row pfR w S A1 r.nets ∧ Row lkR w S A2 r.links ∧ Row wyR w S A3 r.ways := by
  obtain ⟨ad, cs, e, _, hK, hc⟩ := h.at_ hx
  obtain ⟨_, _, rfl, rfl, _, _, rfl, ⟨A1, n1, rfl, _, h1⟩, _, _, rfl, ⟨A2, n2, rfl, _, h2⟩, _, _, rfl, ⟨A3, n3, rfl, _, h3⟩, _, _, rfl, rfl, rfl⟩ := hK
  exact ⟨ad, A1, n1, A2, n2, A3, n3, e, hc, h1, h2, h3⟩
theorem bs_inj {a b : Str} : bs a = bs b ↔ a = b := by
  constructor
  · intro h
    have := congrArg (fun x => x.data.toList) h
    simpa [bs] using this
  · rintro rfl; rfl
end
end Go.Proofs.Ytcagkdgpoijkoaa.Mq
end
section
namespace Go.Proofs.Ytcagkdgpoijkoaa.OfP
open Go.Proofs.Ytcagkdgpoijkoaa.Mq
structure At where
  ok : Bool
  pref : Int
  cost : Int
  tags : Int
  deriving DecidableEq
def At.enc (a : At) : List Value := [.bool a.ok, .int .i64 a.pref, .int .i64 a.cost, .int .u8 a.tags]
def atR : Rep At := flat 4 At.enc (fun _ => rfl) (fun x u hu => by simp [At.enc] at hu; rcases hu with rfl | rfl | rfl | rfl <;> rfl)
def le (x y : Int) : Bool := decide (x ≤ y)
def sameB (a b : At) : Bool := (!a.ok && !b.ok) || decide (a = b)
def pick (a : At) (offs : List At) (es : List Ed) : List Int := ((offs.zip es).filter fun p => sameB p.1 a).map (·.2.frm)
inductive Way where
  | none
  | one (x : Int)
  | all (a : At)
def way (o : List Bool) (s : List Int) (l : List At) (k : Nat) : Way :=
  if o.getD k false then .none else
  match s[k]? with
  | some x => if 0 ≤ x then .one x else match l[k]? with | some a => if a.ok then .all a else .none | none => .none
  | none => match l[k]? with | some a => if a.ok then .all a else .none | none => .none
def ofRow (o : List Bool) (s : List Int) (es : List (List Ed)) (l : List At) (offs : Nat → List At) (k : Nat) : List Int :=
  match way o s l k with
  | .none => []
  | .one x => [x]
  | .all a => (pick a (offs k) (es.getD k [])).mergeSort le
def ofN (row : Nat → List Int) (n k : Nat) : List (List Int) := (List.range n).map fun j => if j < k then row j else []
def ofB (o : List Bool) (s : List Int) (es : List (List Ed)) (l : List At) (offs : Nat → List At) : List (List Int) := ofN (ofRow o s es l offs) o.length o.length
theorem ofN_len (row : Nat → List Int) (n k : Nat) : (ofN row n k).length = n := by simp [ofN]
theorem ofN_zero (row : Nat → List Int) (n : Nat) : ofN row n 0 = List.replicate n [] := by
  apply List.ext_getElem?
  intro i
  by_cases h : i < n <;> simp [ofN, h]
theorem ofN_get (row : Nat → List Int) (n k : Nat) (h : k < n) : (ofN row n k)[k]? = some [] := by simp [ofN, h]
theorem ofN_next (row : Nat → List Int) (n k : Nat) : (ofN row n k).set k (row k) = ofN row n (k + 1) := by
  apply List.ext_getElem?
  intro i
  rw [List.getElem?_set]
  by_cases h : k = i
  · subst h
    by_cases hk : k < n
    · simp [ofN, hk]
    · simp [ofN, hk]
  · rw [if_neg h]
    by_cases hi : i < n
    · simp [ofN, hi]
      by_cases h2 : i < k
      · rw [if_pos h2, if_pos (by omega)]
      · rw [if_neg h2, if_neg (by omega)]
    · simp [ofN, hi]
theorem ofN_same (row : Nat → List Int) (n k : Nat) (h : row k = []) : ofN row n (k + 1) = ofN row n k := by
  rw [← ofN_next, h]
  apply List.ext_getElem?
  intro i
  rw [List.getElem?_set]
  by_cases e : k = i
  · subst e
    by_cases hk : k < n <;> simp [ofN, hk]
  · rw [if_neg e]
theorem set_get {α : Type} (l : List α) (k : Nat) (x : α) (h : k < l.length) : (l.set k x)[k]? = some x := by simp [h]
theorem pick_zero (a : At) (es : List Ed) : pick a [] es = [] := by simp [pick]
theorem zip_next {α β : Type} : ∀ (i : Nat) (xs : List α) (ys : List β) (x : α) (y : β), xs[i]? = some x → ys[i]? = some y → (xs.take (i + 1)).zip ys = (xs.take i).zip ys ++ [(x, y)]
  | 0, a :: xs, b :: ys, x, y, h1, h2 => by simp at h1 h2; simp [h1, h2]
  | i + 1, a :: xs, b :: ys, x, y, h1, h2 => by
    have := zip_next i xs ys x y (by simpa using h1) (by simpa using h2)
    simp [this]
theorem pick_next (a : At) (offs : List At) (es : List Ed) (i : Nat) (x : At) (e : Ed) (hx : offs[i]? = some x) (he : es[i]? = some e) :
    pick a (offs.take (i + 1)) es = pick a (offs.take i) es ++ if sameB x a then [e.frm] else [] := by
  have h1 := zip_next i offs es x e hx he
  unfold pick
  rw [h1, List.filter_append, List.map_append]
  cases hs : sameB x a <;> simp [hs]
theorem pick_len (a : At) (offs : List At) (es : List Ed) : (pick a offs es).length ≤ offs.length := by
  unfold pick
  rw [List.length_map]
  exact Nat.le_trans (List.length_filter_le _ _) (by rw [List.length_zip]; omega)
end Go.Proofs.Ytcagkdgpoijkoaa.OfP
end
section
namespace Go.Proofs
open Go.Shelf
def Try.lays189_ren : Go.Shelf.Ren := ⟨fun | 189 => 27 | 125 => 45 | 257 => 44 | 128 => 61 | 129 => 62 | 294 => 52 | 295 => 53 | 296 => 54 | 297 => 55 | 298 => 56 | 299 => 57 | 216 => 58 | 300 => 59 | 301 => 60 | 328 => 74 | 329 => 75 | 330 => 76 | 331 => 77 | 332 => 78 | 215 => 79 | 343 => 83 | n => n, fun | 28 => 29 | 3 => 3 | 46 => 111 | 0 => 0 | 51 => 33 | 53 => 131 | 4 => 4 | 183 => 123 | 182 => 122 | 131 => 105 | 5 => 5 | 9 => 9 | 218 => 140 | 222 => 144 | 228 => 149 | 229 => 150 | n => n, fun | n => n⟩
theorem Try.lays189 : Go.Proofs.Lays.n189 Try.prog Try.lays189_ren := {
  mixed := by kernel_rfl
  f125 := Try.func45.trans (congrArg some (by kernel_rfl))
  f128 := Try.func61.trans (congrArg some (by kernel_rfl))
  f129 := Try.func62.trans (congrArg some (by kernel_rfl))
  f189 := Try.func27.trans (congrArg some (by kernel_rfl))
  f215 := Try.func79.trans (congrArg some (by kernel_rfl))
  f216 := Try.func58.trans (congrArg some (by kernel_rfl))
  f257 := Try.func44.trans (congrArg some (by kernel_rfl))
  f294 := Try.func52.trans (congrArg some (by kernel_rfl))
  f295 := Try.func53.trans (congrArg some (by kernel_rfl))
  f296 := Try.func54.trans (congrArg some (by kernel_rfl))
  f297 := Try.func55.trans (congrArg some (by kernel_rfl))
  f298 := Try.func56.trans (congrArg some (by kernel_rfl))
  f299 := Try.func57.trans (congrArg some (by kernel_rfl))
  f300 := Try.func59.trans (congrArg some (by kernel_rfl))
  f301 := Try.func60.trans (congrArg some (by kernel_rfl))
  f328 := Try.func74.trans (congrArg some (by kernel_rfl))
  f329 := Try.func75.trans (congrArg some (by kernel_rfl))
  f330 := Try.func76.trans (congrArg some (by kernel_rfl))
  f331 := Try.func77.trans (congrArg some (by kernel_rfl))
  f332 := Try.func78.trans (congrArg some (by kernel_rfl))
  f343 := Try.func83.trans (congrArg some (by kernel_rfl))
  t0 := Try.underlying0
  a0 := Try.isAgg0
  z0 := Try.sizeOf0
  v0 := Try.zeroValue0
  t3 := Try.underlying3
  a3 := Try.isAgg3
  z3 := Try.sizeOf3
  v3 := Try.zeroValue3
  t4 := Try.underlying4
  a4 := Try.isAgg4
  z4 := Try.sizeOf4
  v4 := Try.zeroValue4
  t5 := Try.underlying5
  a5 := Try.isAgg5
  z5 := Try.sizeOf5
  v5 := Try.zeroValue5
  t9 := Try.underlying9
  a9 := Try.isAgg9
  z9 := Try.sizeOf9
  v9 := Try.zeroValue9
  t28 := Try.underlying29
  a28 := Try.isAgg29
  z28 := Try.sizeOf29
  v28 := Try.zeroValue29
  t46 := Try.underlying111
  a46 := Try.isAgg111
  z46 := Try.sizeOf111
  v46 := Try.zeroValue111
  t51 := Try.underlying33
  a51 := Try.isAgg33
  z51 := Try.sizeOf33
  v51 := Try.zeroValue33
  t53 := Try.underlying131
  a53 := Try.isAgg131
  z53 := Try.sizeOf131
  v53 := Try.zeroValue131
  t131 := Try.underlying105
  a131 := Try.isAgg105
  z131 := Try.sizeOf105
  v131 := Try.zeroValue105
  t182 := Try.underlying122
  a182 := Try.isAgg122
  z182 := Try.sizeOf122
  v182 := Try.zeroValue122
  t183 := Try.underlying123
  a183 := Try.isAgg123
  z183 := Try.sizeOf123
  v183 := Try.zeroValue123
  t218 := Try.underlying140
  a218 := Try.isAgg140
  z218 := Try.sizeOf140
  v218 := Try.zeroValue140
  t222 := Try.underlying144
  a222 := Try.isAgg144
  z222 := Try.sizeOf144
  v222 := Try.zeroValue144
  t228 := Try.underlying149
  a228 := Try.isAgg149
  z228 := Try.sizeOf149
  v228 := Try.zeroValue149
  t229 := Try.underlying150
  a229 := Try.isAgg150
  z229 := Try.sizeOf150
  v229 := Try.zeroValue150 }
open Go.Sort Go.RowKit in
theorem Try.slices_Sort_int (blk off cap : Nat) (zs : List Int) (w : World) (hH : Holds (Value.int .i64) w blk off zs.toArray) (hblk : blk < w.heap.size) (hsz : zs.length < 4611686018427387904) :
    Calls Try.prog 27 #[.slice (some ⟨blk, off, none⟩) zs.length cap] w fun e w' =>
      e = .returned (.tuple #[]) ∧ ∃ n os, w' = grow (putRow (Value.int .i64) (Sort.ahead w n) blk off (zs.mergeSort fun x y => decide (x ≤ y)).toArray) os := Any.slices_Sort_int Try.lays189 blk off cap zs w hH hblk hsz
open Go.RowKit Go.Sort in
theorem Try.slices_Sort_int_none (p : Option Addr) (cap : Nat) (w : World) :
    Calls Try.prog 27 #[.slice p 0 cap] w fun e w' => e = .returned (.tuple #[]) ∧ w' = w := Any.slices_Sort_int_none Try.lays189 p cap w
end Go.Proofs
end
