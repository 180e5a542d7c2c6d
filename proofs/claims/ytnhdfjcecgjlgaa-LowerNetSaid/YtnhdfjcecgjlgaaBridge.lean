/- Words of this work: from the printer's way to_ tell rows to_ this work's way, and back. Nothing here names the program. -/
import Derived.Test.YtnhdfjcecgjlgaaMq
import Derived.Test.YtnhdfjcecgjlgaaWMore
namespace Go.Proofs.Ytnhdfjcecgjlgaa.Bridge
open Go.RowKit Go.Proofs.Ytnhdfjcecgjlgaa.Mq
open Go.Proofs.YtnhdfjcecgjlgaaW.PrintWords (Kd)
set_option linter.unusedVariables false
section
variable {α β : Type} {d : Kd α} {r : Rep β} {w w0 W : World} {A : Option Addr} {n : Nat} {xs : List α} {ys : List β} {S F : Nat → Prop} {v : Value} {e : Nat} {l R : List Asr}
theorem row_of_C (f : α → β) (hs : d.sz = r.sz) (h0 : 0 < r.sz) (hK : ∀ x cs, d.K w x cs → r.K w (· < w.heap.size) (f x) cs) (h : Kd.C d w A n xs) : Row r w (· < w.heap.size) A (xs.map f) := by
  obtain ⟨h1, h2, h3⟩ := h; refine ⟨by rw [List.length_map, h1]; exact h2, fun hp => ?_⟩; rw [List.length_map, h1] at hp; obtain ⟨ad, rfl, h4⟩ := h3 hp
  have hlt : ad.block < w.heap.size := by
    obtain ⟨c, hc, _, hcc⟩ := h4 0 _ (List.getElem?_eq_getElem (by omega)); have h5 := hcc 0 _ (List.getElem?_eq_getElem (by omega)); have h6 := World.block_lt_of_cell? w _ h5; rwa [add_block] at h6
  refine ⟨ad, rfl, hlt, hlt, fun i y hy => ?_⟩; rw [List.getElem?_map] at hy
  cases hx : xs[i]? with
  | none => rw [hx] at hy; cases hy
  | some x =>
    rw [hx] at hy; injection hy with hy; subst hy; obtain ⟨c, hc, hR, hcc⟩ := h4 i x hx; exact ⟨c, hK x c hR, fun j u hu => by rw [← hs]; exact hcc j u hu⟩
theorem C_of_row (f : β → α) (hs : d.sz = r.sz) (hK : ∀ y cs, r.K w S y cs → d.K w (f y) cs) (h : Row r w S A ys) : Kd.C d w A ys.length (ys.map f) := by
  refine ⟨List.length_map _, h.len, fun hp => ?_⟩; obtain ⟨ad, rfl, h1, h2, h3⟩ := h.2 hp; refine ⟨ad, rfl, fun j p hj => ?_⟩; rw [List.getElem?_map] at hj
  cases hy : ys[j]? with
  | none => rw [hy] at hj; cases hj
  | some y =>
    rw [hy] at hj; injection hj with hj; subst hj; obtain ⟨cs, hK', hc⟩ := h3 j y hy; exact ⟨cs, by rw [hs]; exact r.len hK', hK _ _ hK', fun i u hu => by rw [hs]; exact hc i u hu⟩
theorem C_len {k : Nat} (hk : k = n) (h : Kd.C d w A n xs) : Kd.C d w A k xs := hk ▸ h
theorem V_of_own (f : β → α) (e' : Nat) (b : Nat) (hs : d.sz = r.sz) (h0 : 0 < r.sz) (hK : ∀ w S y cs, r.K w S y cs → d.K w (f y) cs) (H : Mem w W [] (own r e v ys :: l)) : Kd.V d e' W b (fun k_ => w.heap.size ≤ k_) v (ys.map f) := by
  obtain ⟨hB, F, S, h1, h2, h3, h4, h5, h6, S1, S2, k1, k2, k3, k4, k5⟩ := H; obtain ⟨A, c, rfl, hc, hr⟩ := Own.row h0 k4; refine ⟨A, c, by rw [List.length_map], by rw [List.length_map]; exact hc, fun W' hW => ?_⟩; refine C_len (List.length_map _) (C_of_row f hs (fun y cs => hK _ _ y cs) (Row.step (w' := W') (fun k hk hlt => hW k ?_ hlt) hr)); rcases hk with hk | hk
  · exact (h1 k hk).elim (fun h => h.elim) (fun h => h.elim (fun h => h.elim) id)
  · exact (h2 k (k1 k hk)).elim (fun h => h.elim) id
theorem ownsRow_base {b b' : Nat} {size : Nat} {cs : List Value} (h : W.ownsRow b e size v n cs) (hb : ∀ k, v.ownBlock = some k → b' ≤ k) : W.ownsRow b' e size v n cs := by
  obtain ⟨h1, h2⟩ := h; refine ⟨h1, ?_⟩; rcases h2 with h2 | ⟨g, cap, cur, rfl, hg, r⟩
  · exact .inl h2
  · exact .inr ⟨g, cap, cur, rfl, hb g (by simp [Value.ownBlock]), r⟩
theorem R_of_own (f : β → α) (hs : d.sz = r.sz) (hK : ∀ w S y cs, r.K w S y cs → ∀ W b ok, d.M W b ok (f y) cs) (H : Mem w W [] (own r e v ys :: l)) : Kd.R d e W w.heap.size (fun _ => True) v (ys.map f) := by
  obtain ⟨hB, F, S, h1, h2, h3, h4, h5, h6, S1, S2, k1, k2, k3, ⟨k4, cells, ho, hr⟩, k5⟩ := H; refine ⟨fun _ _ => trivial, cells, ?_, ?_⟩
  · rw [List.length_map, hs]
    exact ownsRow_base ho (fun k hk => (h2 k (k1 k (k4 k hk))).elim (fun h => h.elim) id)
  · refine ⟨by rw [List.length_map, hs]; exact hr.1, fun j p hj => ?_⟩
    rw [List.getElem?_map] at hj
    cases hy : ys[j]? with
    | none => rw [hy] at hj; cases hj
    | some y =>
      rw [hy] at hj; injection hj with hj; subst hj; rw [hs]; exact hK _ _ _ _ (hr.2 j y hy) _ _ _
theorem K_slice_back (f : β → α) (hs : d.sz = r.sz) (hK : ∀ y cs, r.K w S y cs → d.K w (f y) cs) (y : List β) (cs : List Value) (h : (slice r).K w S y cs) : (Kd.slice e d).K w (y.map f) cs := by
  obtain ⟨A, c, rfl, hl, hr⟩ := h; exact ⟨A, c, by rw [List.length_map], by rw [List.length_map]; exact hl, C_len (List.length_map _) (C_of_row f hs hK hr)⟩
end
section
variable {w : World} {A : Option Addr} {S : Nat → Prop}
end
end Go.Proofs.Ytnhdfjcecgjlgaa.Bridge
