/- Texts of this work, joined: Bridge, Api. -/
import Derived.Test.YtcagkdgpoijkoaaMq
import Derived.Test.YtcagkdgpoijkoaaWMore
section
namespace Go.Proofs.Ytcagkdgpoijkoaa.Bridge
open Go.RowKit Go.Proofs.Ytcagkdgpoijkoaa.Mq
open Go.Proofs.YtcagkdgpoijkoaaW.PrintWords (Kd)
set_option linter.unusedVariables false
section
variable {α β : Type} {d : Kd α} {r : Rep β} {w w0 W : World} {A : Option Addr} {n : Nat} {xs : List α} {ys : List β} {S F : Nat → Prop} {v : Value} {e : Nat} {l R : List Asr}
theorem row_of_C (f : α → β) (hs : d.sz = r.sz) (h0 : 0 < r.sz) (hK : ∀ x cs, d.K w x cs → r.K w (· < w.heap.size) (f x) cs) (h : Kd.C d w A n xs) : Row r w (· < w.heap.size) A (xs.map f) := by
  obtain ⟨h1, h2, h3⟩ := h; refine ⟨by rw [List.length_map, h1]; exact h2, fun hp => ?_⟩; rw [List.length_map, h1] at hp; obtain ⟨ad, rfl, h4⟩ := h3 hp
  have hlt : ad.block < w.heap.size := by
    obtain ⟨c, hc, _, hcc⟩ := h4 0 _ (List.getElem?_eq_getElem (by omega)); have h5 := hcc 0 _ (List.getElem?_eq_getElem (by omega)); have h6 := World.block_lt_of_cell? w _ h5; rwa [add_block] at h6
  refine ⟨ad, rfl, hlt, hlt, fun i y hy => ?_⟩; rw [List.getElem?_map] at hy
  cases hx : xs[i]? with
  | none => rw [hx] at hy; cases hy
  | some x =>
    rw [hx] at hy; injection hy with hy; subst hy; obtain ⟨c, hc, hR, hcc⟩ := h4 i x hx; exact ⟨c, hK x c hR, fun j u hu => by rw [← hs]; exact hcc j u hu⟩
theorem C_of_row (f : β → α) (hs : d.sz = r.sz) (hK : ∀ y cs, r.K w S y cs → d.K w (f y) cs) (h : Row r w S A ys) : Kd.C d w A ys.length (ys.map f) := by
  refine ⟨List.length_map _, h.len, fun hp => ?_⟩; obtain ⟨ad, rfl, h1, h2, h3⟩ := h.2 hp; refine ⟨ad, rfl, fun j p hj => ?_⟩; rw [List.getElem?_map] at hj
  cases hy : ys[j]? with
  | none => rw [hy] at hj; cases hj
  | some y =>
    rw [hy] at hj; injection hj with hj; subst hj; obtain ⟨cs, hK', hc⟩ := h3 j y hy; exact ⟨cs, by rw [hs]; exact r.len hK', hK _ _ hK', fun i u hu => by rw [hs]; exact hc i u hu⟩
theorem C_len {k : Nat} (hk : k = n) (h : Kd.C d w A n xs) : Kd.C d w A k xs := hk ▸ h
theorem V_of_own (f : β → α) (e' : Nat) (b : Nat) (hs : d.sz = r.sz) (h0 : 0 < r.sz) (hK : ∀ w S y cs, r.K w S y cs → d.K w (f y) cs) (H : Mem w W [] (own r e v ys :: l)) : Kd.V d e' W b (fun k_ => w.heap.size ≤ k_) v (ys.map f) := by
  obtain ⟨hB, F, S, h1, h2, h3, h4, h5, h6, S1, S2, k1, k2, k3, k4, k5⟩ := H; obtain ⟨A, c, rfl, hc, hr⟩ := Own.row h0 k4; refine ⟨A, c, by rw [List.length_map], by rw [List.length_map]; exact hc, fun W' hW => ?_⟩; refine C_len (List.length_map _) (C_of_row f hs (fun y cs => hK _ _ y cs) (Row.step (w' := W') (fun k hk hlt => hW k ?_ hlt) hr)); rcases hk with hk | hk
  · exact (h1 k hk).elim (fun h => h.elim) (fun h => h.elim (fun h => h.elim) id)
  · exact (h2 k (k1 k hk)).elim (fun h => h.elim) id
theorem ownsRow_base {b b' : Nat} {size : Nat} {cs : List Value} (h : W.ownsRow b e size v n cs) (hb : ∀ k, v.ownBlock = some k → b' ≤ k) : W.ownsRow b' e size v n cs := by
  obtain ⟨h1, h2⟩ := h; refine ⟨h1, ?_⟩; rcases h2 with h2 | ⟨g, cap, cur, rfl, hg, r⟩
  · exact .inl h2
  · exact .inr ⟨g, cap, cur, rfl, hb g (by simp [Value.ownBlock]), r⟩
theorem R_of_own (f : β → α) (hs : d.sz = r.sz) (hK : ∀ w S y cs, r.K w S y cs → ∀ W b ok, d.M W b ok (f y) cs) (H : Mem w W [] (own r e v ys :: l)) : Kd.R d e W w.heap.size (fun _ => True) v (ys.map f) := by
  obtain ⟨hB, F, S, h1, h2, h3, h4, h5, h6, S1, S2, k1, k2, k3, ⟨k4, cells, ho, hr⟩, k5⟩ := H; refine ⟨fun _ _ => trivial, cells, ?_, ?_⟩
  · rw [List.length_map, hs]
    exact ownsRow_base ho (fun k hk => (h2 k (k1 k (k4 k hk))).elim (fun h => h.elim) id)
  · refine ⟨by rw [List.length_map, hs]; exact hr.1, fun j p hj => ?_⟩
    rw [List.getElem?_map] at hj
    cases hy : ys[j]? with
    | none => rw [hy] at hj; cases hj
    | some y =>
      rw [hy] at hj; injection hj with hj; subst hj; rw [hs]; exact hK _ _ _ _ (hr.2 j y hy) _ _ _
theorem own_of_R (f : α → β) (hs : d.sz = r.sz) (hK : ∀ W b ok x cs, d.M W b ok x cs → ∀ S, r.K W S (f x) cs) (h : Kd.R d e W w0.heap.size (fun _ => True) v xs) (hB : Below w0.heap.size w0 W) : Mem w0 W [] [own r e v (xs.map f)] := by
  obtain ⟨_, cells, ho, hr⟩ := h; refine ⟨⟨⟨hB.os, hB.tape, hB.output, hB.size, fun k hk _ => hB.block k hk⟩, fun _ h => h.elim⟩, fun _ => False, fun k => w0.heap.size ≤ k ∧ k < W.heap.size, fun _ h => h.elim, fun _ h => .inr h.1, fun _ h => h.elim, fun _ h => h.elim, fun _ h => h.2, (fun a h => by cases h), ?_⟩; refine ⟨fun k => w0.heap.size ≤ k ∧ k < W.heap.size, fun _ => False, fun _ h => h, fun _ h => h.elim, fun _ _ h => h, ⟨fun k hk => ho.lt k hk, cells, ?_, ?_⟩, trivial⟩
  · rw [List.length_map, ← hs]
    exact ownsRow_base ho (fun _ _ => Nat.zero_le _)
  · refine ⟨by rw [List.length_map, ← hs]; exact hr.1, fun j p hj => ?_⟩
    rw [List.getElem?_map] at hj
    cases hx : xs[j]? with
    | none => rw [hx] at hj; cases hj
    | some x =>
      rw [hx] at hj; injection hj with hj; subst hj; rw [← hs]; exact hK _ _ _ _ _ (hr.2 j x hx) _
theorem K_slice (f : α → β) (hs : d.sz = r.sz) (h0 : 0 < r.sz) (hK : ∀ x cs, d.K w x cs → r.K w (· < w.heap.size) (f x) cs) (x : List α) (cs : List Value) (h : (Kd.slice e d).K w x cs) : (slice r).K w (· < w.heap.size) (x.map f) cs := by
  obtain ⟨A, c, rfl, hl, hr⟩ := h; exact ⟨A, c, by rw [List.length_map], by rw [List.length_map]; exact hl, row_of_C f hs h0 hK hr⟩
theorem K_slice_back (f : β → α) (hs : d.sz = r.sz) (hK : ∀ y cs, r.K w S y cs → d.K w (f y) cs) (y : List β) (cs : List Value) (h : (slice r).K w S y cs) : (Kd.slice e d).K w (y.map f) cs := by
  obtain ⟨A, c, rfl, hl, hr⟩ := h; exact ⟨A, c, by rw [List.length_map], by rw [List.length_map]; exact hl, C_len (List.length_map _) (C_of_row f hs hK hr)⟩
end
section
variable {w : World} {A : Option Addr} {S : Nat → Prop}
theorem rows_int {k : IntKind} {e n : Nat} {g : List (List Int)} (h : Kd.C (Kd.slice e (Kd.int k)) w A n g) : Row (slice (int k)) w (· < w.heap.size) A g := by
  have := row_of_C (r := slice (int k)) (fun x : List Int => x) rfl (show 0 < 1 by decide) (fun x cs hx => by simpa using K_slice (r := int k) (fun x : Int => x) rfl (show 0 < 1 by decide) (fun x cs h => h) x cs hx) h; simpa using this
theorem row_bool {n : Nat} {g : List Bool} (h : Kd.C Kd.bool w A n g) : Row bool w (· < w.heap.size) A g := by
  have := row_of_C (r := bool) (fun x : Bool => x) rfl (by decide) (fun x cs hx => hx) h; simpa using this
end
end Go.Proofs.Ytcagkdgpoijkoaa.Bridge
end
section
namespace Go.Proofs.Ytcagkdgpoijkoaa.Mq
open Go.RowKit
set_option linter.unusedVariables false
abbrev Str := List UInt8
structure Pf where
  addr : Int
  bits : Int
  deriving DecidableEq
def Pf.enc (p : Pf) : List Value := [.int .u32 p.addr, .int .i64 p.bits]
def pfR : Rep Pf := flat 2 Pf.enc (fun _ => rfl) (fun x u hu => by simp [Pf.enc] at hu; rcases hu with rfl | rfl <;> rfl)
structure Cl where
  any : Bool
  pre : Pf
  wth : Int
  out : Int
  drop : Bool
  set : Int
  clr : Int
  more : Int
  pref : Int
  deriving DecidableEq
def Cl.enc (c : Cl) : List Value := [.bool c.any, .int .u32 c.pre.addr, .int .i64 c.pre.bits, .int .u8 c.wth, .int .u8 c.out, .bool c.drop, .int .u8 c.set, .int .u8 c.clr, .int .i64 c.more, .int .i64 c.pref]
def clR : Rep Cl := flat 10 Cl.enc (fun _ => rfl) (fun x u hu => by simp [Cl.enc] at hu; rcases hu with rfl | rfl | rfl | rfl | rfl | rfl | rfl | rfl | rfl | rfl <;> rfl)
structure Lk where
  peer : Str
  cost : Int
  imp : Str
  exp : Str
  at_ : Int
  deriving DecidableEq
def Lk.enc (l : Lk) : List Value := [.string (bs l.peer), .int .i64 l.cost, .string (bs l.imp), .string (bs l.exp), .int .i64 l.at_]
def lkR : Rep Lk := flat 5 Lk.enc (fun _ => rfl) (fun x u hu => by simp [Lk.enc] at hu; rcases hu with rfl | rfl | rfl | rfl | rfl <;> rfl)
structure Wy where
  pre : Pf
  via : Str
  at_ : Int
  deriving DecidableEq
def Wy.enc (l : Wy) : List Value := [.int .u32 l.pre.addr, .int .i64 l.pre.bits, .string (bs l.via), .int .i64 l.at_]
def wyR : Rep Wy := flat 4 Wy.enc (fun _ => rfl) (fun x u hu => by simp [Wy.enc] at hu; rcases hu with rfl | rfl | rfl | rfl <;> rfl)
structure Rt where
  name : Str
  nets : List Pf
  links : List Lk
  ways : List Wy
  at_ : Int
def Rt.leaves (r : Rt) : List Leaf := [.val (.string (bs r.name)), .row pfR r.nets, .row lkR r.links, .row wyR r.ways, .val (.int .i64 r.at_)]
def rtR : Rep Rt := strct 5 Rt.leaves (fun _ => rfl) (fun x l hl => by simp [Rt.leaves] at hl; rcases hl with rfl | rfl | rfl | rfl | rfl <;> first | trivial | rfl)
structure Mp where
  name : Str
  clauses : List Cl
  at_ : Int
def Mp.leaves (m : Mp) : List Leaf := [.val (.string (bs m.name)), .row clR m.clauses, .val (.int .i64 m.at_)]
def mpR : Rep Mp := strct 3 Mp.leaves (fun _ => rfl) (fun x l hl => by simp [Mp.leaves] at hl; rcases hl with rfl | rfl | rfl <;> first | trivial | rfl)
structure Ed where
  frm : Int
  cost : Int
  exp : List Cl
  imp : List Cl
def Ed.leaves (e : Ed) : List Leaf := [.val (.int .i64 e.frm), .val (.int .i64 e.cost), .row clR e.exp, .row clR e.imp]
def edR : Rep Ed := strct 4 Ed.leaves (fun _ => rfl) (fun x l hl => by simp [Ed.leaves] at hl; rcases hl with rfl | rfl | rfl | rfl <;> first | trivial | rfl)
structure Cf where
  maps : List Mp
  routers : List Rt
structure Nt where
  origin : List Bool
  static : List Int
  edges : List (List Ed)
section
variable {w : World} {S : Nat → Prop} {A : Option Addr}
theorem Row.flat1 {α : Type} {sz : Nat} {enc : α → List Value} {h1 : ∀ x, (enc x).length = sz} {h2 : ∀ x, ∀ u ∈ enc x, u.oneCell' = true} {xs : List α} (h : Row (flat sz enc h1 h2) w S A xs) {i : Nat} {x : α} (hx : xs[i]? = some x) :
    ∃ ad, A = some ad ∧ ∀ (j : Nat) u, (enc x)[j]? = some u → w.cell? (ad.add (i * sz + j)) = some u := by
  obtain ⟨ad, cs, e, _, hK, hc⟩ := h.at_ hx
  cases hK
  exact ⟨ad, e, hc⟩
theorem Row.mp1 {xs : List Mp} (h : Row mpR w S A xs) {i : Nat} {m : Mp} (hx : xs[i]? = some m) :
    ∃ ad A1 n, A = some ad ∧ (∀ (j : Nat) u, [Value.string (bs m.name), .slice A1 m.clauses.length n, .int .i64 m.at_][j]? = some u → w.cell? (ad.add (i * 3 + j)) = some u) ∧ Row clR w S A1 m.clauses := by
  obtain ⟨ad, cs, e, _, hK, hc⟩ := h.at_ hx
  obtain ⟨_, _, rfl, rfl, _, _, rfl, ⟨A1, n, rfl, h2, h3⟩, _, _, rfl, rfl, rfl⟩ := hK
  exact ⟨ad, A1, n, e, hc, h3⟩
theorem Row.rt1 {xs : List Rt} (h : Row rtR w S A xs) {i : Nat} {r : Rt} (hx : xs[i]? = some r) :
    ∃ ad A1 n1 A2 n2 A3 n3, A = some ad ∧ (∀ (j : Nat) u, [Value.string (bs r.name), .slice A1 r.nets.length n1, .slice A2 r.links.length n2, .slice A3 r.ways.length n3, .int .i64 r.at_][j]? = some u → w.cell? (ad.add (i * 5 + j)) = some u) ∧ Row pfR w S A1 r.nets ∧ Row lkR w S A2 r.links ∧ Row wyR w S A3 r.ways := by
  obtain ⟨ad, cs, e, _, hK, hc⟩ := h.at_ hx
  obtain ⟨_, _, rfl, rfl, _, _, rfl, ⟨A1, n1, rfl, _, h1⟩, _, _, rfl, ⟨A2, n2, rfl, _, h2⟩, _, _, rfl, ⟨A3, n3, rfl, _, h3⟩, _, _, rfl, rfl, rfl⟩ := hK
  exact ⟨ad, A1, n1, A2, n2, A3, n3, e, hc, h1, h2, h3⟩
theorem bs_inj {a b : Str} : bs a = bs b ↔ a = b := by
  constructor
  · intro h
    have := congrArg (fun x => x.data.toList) h
    simpa [bs] using this
  · rintro rfl; rfl
end
end Go.Proofs.Ytcagkdgpoijkoaa.Mq
end
