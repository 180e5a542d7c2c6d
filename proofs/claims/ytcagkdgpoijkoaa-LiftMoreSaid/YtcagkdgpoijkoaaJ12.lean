/- Texts of this work, joined: LiN, FwP. -/
import Derived.Test.YtcagkdgpoijkoaaJ6
import Derived.Test.YtcagkdgpoijkoaaPLmx12
import Derived.Test.YtcagkdgpoijkoaaJ9
import Derived.Test.YtcagkdgpoijkoaaJ11
section
namespace Go.Proofs.Ytcagkdgpoijkoaa.LiN
open Go.RowKit Go.Proofs.Ytcagkdgpoijkoaa.PLm Go.Proofs.YtcagkdgpoijkoaaW.PrintWords Go.Proofs.YtcagkdgpoijkoaaW.PrintLast Go.Proofs.YtcagkdgpoijkoaaW.PrintMore Go.Proofs.Ytcagkdgpoijkoaa.Low Go.Proofs.Ytcagkdgpoijkoaa.LiC
open Go.Proofs.Ytcagkdgpoijkoaa.Mq (Pf Rt Cl Ed Mp Lk)
set_option linter.unusedVariables false
set_option linter.unusedSimpArgs false
set_option linter.all false
abbrev AT := S41
theorem covers_ok (a b c d : Int) : ∃ r, prefix_Covers.f a b c d = some r := ⟨_, rfl⟩
theorem matches_ok (c : CL) (p0 p1 t : Int) : ∃ r, clause_Matches.f c.f0 c.f1.f0 c.f1.f1 c.f2 c.f3 c.f4 c.f5 c.f6 c.f7 c.f8 p0 p1 t = some r := by
  unfold clause_Matches.f
  obtain ⟨q, hq⟩ := covers_ok c.f1.f0 c.f1.f1 p0 p1
  rw [hq, Option.bind_some]
  repeat (first | exact ⟨_, rfl⟩ | split)
theorem do_l (cs : List CL) (hn : cs.length ≤ 4611686018427387904) (p0 p1 : Int) (b : Bool) (x1 x2 x3 : Int) : ∀ d i, i + d = cs.length → ∃ k r, clause_Do.l0 k cs (cs.length : Int) (i : Int) p0 p1 b x1 x2 x3 = some r
  | 0, i, h => ⟨1, (b, x1, x2, x3), by rw [clause_Do.l0, if_neg (by omega)]⟩
  | d + 1, i, h => by
    obtain ⟨k, r, hk⟩ := do_l cs hn p0 p1 b x1 x2 x3 d (i + 1) (by omega)
    obtain ⟨q, hq⟩ := matches_ok (rd_T116 cs (i : Int)) p0 p1 x3
    refine ⟨k + 1, ?_⟩
    rw [clause_Do.l0, if_pos (by omega), if_pos (by omega), if_pos (by omega), hq, Option.bind_some, w1 (by omega), hk]
    repeat (first | exact ⟨_, rfl⟩ | split)
theorem do_ok (cs : List CL) (hn : cs.length ≤ 4611686018427387904) (p0 p1 : Int) (b : Bool) (x1 x2 x3 : Int) : ∃ k r, clause_Do.f k cs p0 p1 b x1 x2 x3 = some r := by
  obtain ⟨k, r, h⟩ := do_l cs hn p0 p1 b x1 x2 x3 cs.length 0 (by omega)
  refine ⟨k, ?_⟩
  unfold clause_Do.f
  rw [show ((0 : Nat) : Int) = 0 from rfl] at h
  rw [h]
  repeat (first | exact ⟨_, rfl⟩ | split)
theorem take_ok (a0 a1 : Int) (x y : List CL) (hx : x.length ≤ 4611686018427387904) (hy : y.length ≤ 4611686018427387904) (b : Bool) (x1 x2 x3 : Int) : ∃ k r, edge_Take.f k a0 a1 x y b x1 x2 x3 = some r := by
  obtain ⟨k, r, h⟩ := do_ok x hx 0 0 b x1 x2 x3
  obtain ⟨k2, r2, h2⟩ := do_ok y hy 0 0 r.1 100 (wrap64 (r.2.2.1 + (mx 1 (mn a1 1000)))) r.2.2.2
  refine ⟨k + k2, ?_⟩
  unfold edge_Take.f
  rw [up (F := fun k => clause_Do.f k x 0 0 b x1 x2 x3) (fun k => clause_Do.mono _ _ _ _ _ _ _ k) (Nat.le_add_right k k2) h, Option.bind_some, up (F := fun k => clause_Do.f k y 0 0 r.1 100 (wrap64 (r.2.2.1 + (mx 1 (mn a1 1000)))) r.2.2.2) (fun k => clause_Do.mono _ _ _ _ _ _ _ k) (Nat.le_add_left k2 k) h2, Option.bind_some]
  repeat (first | exact ⟨_, rfl⟩ | split)
def okE (e : ED) : Prop := e.f2.length ≤ 4611686018427387904 ∧ e.f3.length ≤ 4611686018427387904
theorem okE_rd {es : List ED} (hE : ∀ e ∈ es, okE e) (i : Int) : okE (rd_T51 es i) := by
  unfold rd_T51
  rw [List.getD_eq_getElem?_getD]
  cases h : es[i.toNat]? with
  | none => exact ⟨by show (0 : Nat) ≤ _; omega, by show (0 : Nat) ≤ _; omega⟩
  | some e => exact hE e (List.mem_of_getElem? h)
theorem offers_l (L : List AT) (es : List ED) (hE : ∀ e ∈ es, okE e) (hn : es.length ≤ 1000000) : ∀ d i (acc : List AT), i + d = es.length → acc.length = i → ∃ k r, stable_Offers.l0 k L acc es (es.length : Int) (i : Int) = some r ∧ r.length = es.length
  | 0, i, acc, h, ha => ⟨1, acc, by rw [stable_Offers.l0, if_neg (by omega)], by omega⟩
  | d + 1, i, acc, h, ha => by
    have hz : ∃ k r, stable_Offers.l0 k L (acc ++ [⟨false, 0, 0, 0⟩]) es (es.length : Int) ((i + 1 : Nat) : Int) = some r ∧ r.length = es.length := offers_l L es hE hn d (i + 1) _ (by omega) (by simp [ha])
    obtain ⟨k0, r0, hz, hl0⟩ := hz
    have he := okE_rd hE (i : Int)
    obtain ⟨k1, r1, ht⟩ := take_ok (rd_T51 es (i : Int)).f0 (rd_T51 es (i : Int)).f1 _ _ he.1 he.2 (rd_T41 L (rd_T51 es (i : Int)).f0).f0 (rd_T41 L (rd_T51 es (i : Int)).f0).f1 (rd_T41 L (rd_T51 es (i : Int)).f0).f2 (rd_T41 L (rd_T51 es (i : Int)).f0).f3
    have hy : ∃ k r, stable_Offers.l0 k L (acc ++ [⟨r1.1, r1.2.1, r1.2.2.1, r1.2.2.2⟩]) es (es.length : Int) ((i + 1 : Nat) : Int) = some r ∧ r.length = es.length := offers_l L es hE hn d (i + 1) _ (by omega) (by simp [ha])
    obtain ⟨k2, r2, hy, hl2⟩ := hy
    by_cases c1 : (rd_T51 es (i : Int)).f0 ≥ 0
    · by_cases c2 : (rd_T51 es (i : Int)).f0 < (L.length : Int)
      · refine ⟨k1 + k2 + 1, r2, ?_, hl2⟩
        rw [stable_Offers.l0, if_pos (by omega), if_pos (by omega), if_pos (by omega), if_pos c1, if_pos c2, if_pos (by omega), up (F := fun k => edge_Take.f k _ _ _ _ _ _ _ _) (fun k => edge_Take.mono _ _ _ _ _ _ _ _ k) (Nat.le_add_right k1 k2) ht, Option.bind_some, if_pos (by omega), w1 (by omega)]
        exact up (F := fun k => stable_Offers.l0 k _ _ _ _ _) (fun k => (stable_Offers.mono_l k).2 _ _ _ _ _) (Nat.le_add_left k2 k1) hy
      · refine ⟨k0 + 1, r0, ?_, hl0⟩
        rw [stable_Offers.l0, if_pos (by omega), if_pos (by omega), if_pos (by omega), if_pos c1, if_neg c2, if_pos (by omega), w1 (by omega)]
        exact hz
    · refine ⟨k0 + 1, r0, ?_, hl0⟩
      rw [stable_Offers.l0, if_pos (by omega), if_pos (by omega), if_pos (by omega), if_neg c1, if_pos (by omega), w1 (by omega)]
      exact hz
structure NetOk (o : List Bool) (s : List Int) (E : List (List ED)) : Prop where
  l : o.length ≤ 1000000
  e : ∀ es ∈ E, es.length ≤ 1000000 ∧ ∀ e ∈ es, okE e
theorem offers_ok (o : List Bool) (s : List Int) (E : List (List ED)) (h : NetOk o s E) (L : List AT) (j : Nat) : ∃ k r, stable_Offers.f k o s E L (j : Int) = some r ∧ r.length ≤ (E.getD j []).length := by
  unfold stable_Offers.f
  by_cases c : j < E.length
  · have e : E.getD j [] = E[j] := by rw [List.getD_eq_getElem?_getD, List.getElem?_eq_getElem c]; rfl
    have hm := h.e E[j] (List.getElem_mem c)
    obtain ⟨k, r, hk, hl⟩ := offers_l L E[j] hm.2 hm.1 E[j].length 0 [] (by omega) rfl
    refine ⟨k + 1, r, ?_, by rw [e]; omega⟩
    rw [if_neg (by omega), stable_Offers.j0, if_neg (by simp; omega), if_pos (by omega), if_pos (by omega)]
    have e2 : rd_L23 E (j : Int) = E[j] := e
    rw [e2]
    exact hk
  · refine ⟨1, [], ?_, by simp⟩
    rw [if_neg (by omega), stable_Offers.j0, if_pos (by simp; omega)]
theorem fixed_ok (o : List Bool) (s : List Int) (E : List (List ED)) (j : Nat) : ∃ r, stable_Fixed.f o s E (j : Int) = some r := by
  unfold stable_Fixed.f
  repeat (first | exact ⟨_, rfl⟩ | split)
theorem better_ok (b : Bool) (x1 x2 x3 : Int) (c : Bool) (y1 y2 y3 : Int) (k : Nat) : ∃ r, attr_Better.f (k + 1) b x1 x2 x3 c y1 y2 y3 = some r := by
  unfold attr_Better.f
  repeat (first | exact ⟨_, rfl⟩ | rw [attr_Better.j0] | split)
theorem best_l (L : List AT) (hn : L.length ≤ 4611686018427387904) : ∀ d i (b : Bool) (x1 x2 x3 : Int), i + d = L.length → ∃ k r, attr_Best.l0 k L (L.length : Int) (i : Int) b x1 x2 x3 = some r
  | 0, i, b, x1, x2, x3, h => ⟨1, (b, x1, x2, x3), by rw [attr_Best.l0, if_neg (by omega)]⟩
  | d + 1, i, b, x1, x2, x3, h => by
    obtain ⟨k1, r1, h1⟩ := best_l L hn d (i + 1) b x1 x2 x3 (by omega)
    obtain ⟨k2, r2, h2⟩ := best_l L hn d (i + 1) (rd_T41 L (i : Int)).f0 (rd_T41 L (i : Int)).f1 (rd_T41 L (i : Int)).f2 (rd_T41 L (i : Int)).f3 (by omega)
    obtain ⟨q, hq⟩ := better_ok (rd_T41 L (i : Int)).f0 (rd_T41 L (i : Int)).f1 (rd_T41 L (i : Int)).f2 (rd_T41 L (i : Int)).f3 b x1 x2 x3 (k1 + k2)
    refine ⟨k1 + k2 + 1 + 1, ?_⟩
    rw [attr_Best.l0, if_pos (by omega), if_pos (by omega), if_pos (by omega), hq, Option.bind_some, w1 (by omega)]
    rw [up (F := fun k => attr_Best.l0 k L (L.length : Int) ((i + 1 : Nat) : Int) b x1 x2 x3) (fun k => attr_Best.mono_l k _ _ _ _ _ _ _) (by omega : k1 ≤ k1 + k2 + 1) h1]
    rw [up (F := fun k => attr_Best.l0 k L (L.length : Int) ((i + 1 : Nat) : Int) _ _ _ _) (fun k => attr_Best.mono_l k _ _ _ _ _ _ _) (by omega : k2 ≤ k1 + k2 + 1) h2]
    repeat (first | exact ⟨_, rfl⟩ | split)
theorem best_ok (L : List AT) (hn : L.length ≤ 4611686018427387904) : ∃ k r, attr_Best.f k L = some r := by
  obtain ⟨k, r, h⟩ := best_l L hn L.length 0 false 0 0 0 (by omega)
  exact ⟨k, r, h⟩
theorem choice_ok (o : List Bool) (s : List Int) (E : List (List ED)) (h : NetOk o s E) (L : List AT) (j : Nat) : ∃ k r, stable_Choice.f k o s E L (j : Int) = some r := by
  obtain ⟨q, hq⟩ := fixed_ok o s E j
  obtain ⟨k1, r1, h1, hl⟩ := offers_ok o s E h L j
  have hb : r1.length ≤ 4611686018427387904 := by
    have : (E.getD j []).length ≤ 1000000 := by
      rw [List.getD_eq_getElem?_getD]
      cases e : E[j]? with
      | none => exact Nat.zero_le _
      | some es => exact (h.e es (List.mem_of_getElem? e)).1
    omega
  obtain ⟨k2, r2, h2⟩ := best_ok r1 hb
  refine ⟨k1 + k2, ?_⟩
  unfold stable_Choice.f
  rw [hq, Option.bind_some, up (F := fun k => stable_Offers.f k o s E L (j : Int)) (fun k => stable_Offers.mono _ _ _ _ _ k) (Nat.le_add_right k1 k2) h1, Option.bind_some, up (F := fun k => attr_Best.f k r1) (fun k => attr_Best.mono _ k) (Nat.le_add_left k2 k1) h2, Option.bind_some]
  repeat (first | exact ⟨_, rfl⟩ | split)
theorem of_at (o : List Bool) (s : List Int) (E : List (List ED)) (h : NetOk o s E) (L : List AT) : ∃ K G, (∀ k, K ≤ k → forward_Of.f k o s E L = some G) ∧ G.length = o.length := by
  have hall : ∀ n : Nat, ∃ K, ∀ j : Nat, j < n → ∃ r, stable_Offers.f K o s E L (j : Int) = some r ∧ r.length ≤ (E.getD j []).length := by
    intro n
    induction n with
    | zero => exact ⟨0, fun j hj => absurd hj (by omega)⟩
    | succ n ih =>
      obtain ⟨K, hK⟩ := ih
      obtain ⟨k, r, hk, hl⟩ := offers_ok o s E h L n
      refine ⟨K + k, fun j hj => ?_⟩
      by_cases hjn : j < n
      · obtain ⟨r, hr, hl⟩ := hK j hjn
        exact ⟨r, up (F := fun k => stable_Offers.f k o s E L (j : Int)) (fun k => stable_Offers.mono _ _ _ _ _ k) (Nat.le_add_right K k) hr, hl⟩
      · obtain rfl : j = n := by omega
        exact ⟨r, up (F := fun k => stable_Offers.f k o s E L (j : Int)) (fun k => stable_Offers.mono _ _ _ _ _ k) (Nat.le_add_left k K) hk, hl⟩
  obtain ⟨K, hK⟩ := hall o.length
  have hok : forward_Of.ok K o s E L = true := by
    unfold forward_Of.ok
    have hol := h.l
    simp only [Bool.and_eq_true, decide_eq_true_eq, List.all_eq_true]
    refine ⟨by omega, fun j hj => ?_⟩
    obtain ⟨r, hr, hl⟩ := hK j (List.mem_range.1 hj)
    have hb : (E.getD j []).length ≤ 1000000 := by
      rw [List.getD_eq_getElem?_getD]
      cases e : E[j]? with
      | none => exact Nat.zero_le _
      | some es => exact (h.e es (List.mem_of_getElem? e)).1
    rw [hr]
    simp only [Bool.and_eq_true, decide_eq_true_eq]
    exact ⟨by omega, hl⟩
  refine ⟨K, _, fun k hk => up (F := fun k => forward_Of.f k o s E L) (fun k => forward_Of.mono _ _ _ _ k) hk (by unfold forward_Of.f; rw [if_pos hok]), ?_⟩
  exact Go.Proofs.Ytcagkdgpoijkoaa.OfP.ofN_len _ _ _
theorem frEd_ok (N : Nat) (h : N ≤ 4611686018427387904) (y : Ed) (h1 : y.exp.length ≤ N) (h2 : y.imp.length ≤ N) : okE (frEd y) := by
  have e1 : (frEd y).f2.length = y.exp.length := List.length_map _
  have e2 : (frEd y).f3.length = y.imp.length := List.length_map _
  exact ⟨by omega, by omega⟩
theorem net_ok (M : List MP) (R : List RT) (hF : Fit M R) (a b : Int) : NetOk (netO R a b) (netS R a b) (netE M R a b) := by
  refine ⟨?_, ?_⟩
  · have := hF.l
    unfold netO
    rw [List.length_map, List.length_map]
    omega
  · intro es hes
    unfold netE at hes
    obtain ⟨es', hes', rfl⟩ := List.mem_map.1 hes
    obtain ⟨r', hr', rfl⟩ := List.mem_map.1 hes'
    obtain ⟨r, hr, rfl⟩ := List.mem_map.1 hr'
    have hr1 := hF.r r hr
    refine ⟨?_, ?_⟩
    · rw [List.length_map]
      unfold edgesB
      refine Nat.le_trans (List.length_filterMap_le _ _) ?_
      show (r.f2.map toLk).length ≤ _
      rw [List.length_map]
      omega
    · intro e he
      obtain ⟨y, hy, rfl⟩ := List.mem_map.1 he
      unfold edgesB at hy
      obtain ⟨l, -, hl⟩ := List.mem_filterMap.1 hy
      unfold edgeB at hl
      obtain ⟨k, -, rfl⟩ := Option.map_eq_some_iff.1 hl
      have hM : ∀ m ∈ M.map toMp, m.clauses.length ≤ 1000 := by
        intro m hm
        obtain ⟨m', hm', rfl⟩ := List.mem_map.1 hm
        show (m'.f1.map toCl).length ≤ 1000
        rw [List.length_map]
        exact hF.m m' hm'
      exact frEd_ok 1000 (by omega) _ (clauses_len _ _ hM _ _) (clauses_len _ _ hM _ _)
theorem lnet_at {a0 : Int} {ls : List Int} {mp : List (List Cfg.SU)} {ns nt ws : List Int} (h : Cfg.Shape a0 ls mp ns nt ws) (a1 : Int) (ha1 : 0 ≤ a1 ∧ a1 ≤ 255) : ∃ K o s E p0 p1 b, (∀ k, K ≤ k → maquettelaw15_Net.f k a0 ls mp ns nt ws a1 = some (o, s, E, p0, p1, b)) ∧ (b = true → ∃ p0 p1, o = netO (Cfg.crouts a0 ls mp ns nt ws) p0 p1 ∧ s = netS (Cfg.crouts a0 ls mp ns nt ws) p0 p1 ∧ E = netE (Cfg.cmaps mp) (Cfg.crouts a0 ls mp ns nt ws) p0 p1) := by
  obtain ⟨K, hK⟩ := Cfg.config_at h
  have hF := config_fit h
  by_cases hc : (cls (Cfg.crouts a0 ls mp ns nt ws)).length = 0
  · refine ⟨K, [], [], [], 0, 0, false, fun k hk => ?_, fun hb => by cases hb⟩
    unfold maquettelaw15_Net.f
    rw [hK k hk, Option.bind_some, classes_at _ _ hF, Option.bind_some, if_pos (by omega)]
  · obtain ⟨q, hq⟩ : ∃ q, q = rd_T35 (cls (Cfg.crouts a0 ls mp ns nt ws)) (a1 % ((cls (Cfg.crouts a0 ls mp ns nt ws)).length : Int)) := ⟨_, rfl⟩
    refine ⟨K, netO (Cfg.crouts a0 ls mp ns nt ws) q.f0 q.f1, netS (Cfg.crouts a0 ls mp ns nt ws) q.f0 q.f1, netE (Cfg.cmaps mp) (Cfg.crouts a0 ls mp ns nt ws) q.f0 q.f1, q.f0, q.f1, true, fun k hk => ?_, fun _ => ⟨q.f0, q.f1, rfl, rfl, rfl⟩⟩
    have e1 : wrap64 a1 = a1 := by unfold wrap64; omega
    have e2 : Int.tmod a1 ((cls (Cfg.crouts a0 ls mp ns nt ws)).length : Int) = a1 % ((cls (Cfg.crouts a0 ls mp ns nt ws)).length : Int) := Int.tmod_eq_emod_of_nonneg ha1.1
    have e3 := Int.emod_nonneg a1 (show ((cls (Cfg.crouts a0 ls mp ns nt ws)).length : Int) ≠ 0 by omega)
    have e4 := Int.emod_lt_of_pos a1 (show 0 < ((cls (Cfg.crouts a0 ls mp ns nt ws)).length : Int) by omega)
    unfold maquettelaw15_Net.f
    rw [hK k hk, Option.bind_some, classes_at _ _ hF, Option.bind_some, if_neg (by omega), e1, e2, if_pos e3, if_pos e4, ← hq, net_at _ _ hF, Option.bind_some]
end Go.Proofs.Ytcagkdgpoijkoaa.LiN
end
section
/- Plain: graphs, walks and steps (forward), without the program. -/
namespace Go.Proofs.Ytcagkdgpoijkoaa.FwP
set_option linter.unusedVariables false
set_option linter.unusedSimpArgs false
def hit (to_ : List Bool) (x : Int) : Bool := decide (0 ≤ x) && (decide (x < to_.length) && to_.getD x.toNat false)
def stepB (g : List (List Int)) (to_ : List Bool) : List Bool := g.map fun next => next.any (hit to_)
def stepN (g : List (List Int)) (to_ : List Bool) (k : Nat) : List Bool := stepB (g.take k) to_ ++ List.replicate (g.length - k) false
theorem stepN_zero (g : List (List Int)) (to_ : List Bool) : stepN g to_ 0 = List.replicate g.length false := by simp [stepN, stepB]
theorem stepN_all (g : List (List Int)) (to_ : List Bool) : stepN g to_ g.length = stepB g to_ := by simp [stepN]
theorem stepN_len (g : List (List Int)) (to_ : List Bool) (k : Nat) (h : k ≤ g.length) : (stepN g to_ k).length = g.length := by simp [stepN, stepB]; omega
theorem stepB_len (g : List (List Int)) (to_ : List Bool) : (stepB g to_).length = g.length := by simp [stepB]
theorem stepN_get (g : List (List Int)) (to_ : List Bool) (k : Nat) (h : k < g.length) : (stepN g to_ k)[k]? = some false := by
  (have hl : (stepB (g.take k) to_).length = k := by simp [stepB]; omega); rw [stepN, List.getElem?_append_right (by omega), hl, Nat.sub_self, List.getElem?_replicate, if_pos (by omega)]
theorem stepN_succ (g : List (List Int)) (to_ : List Bool) (k : Nat) (r : List Int) (hr : g[k]? = some r) : (stepN g to_ k).set k (r.any (hit to_)) = stepN g to_ (k + 1) := by
  have h : k < g.length := by
    rcases Nat.lt_or_ge k g.length with h1 | h1
    · exact h1
    · rw [List.getElem?_eq_none h1] at hr; cases hr
  (have hl : (stepB (g.take k) to_).length = k := by simp [stepB]; omega); rw [stepN, List.set_append_right _ _ (by omega), hl, Nat.sub_self, show g.length - k = (g.length - (k + 1)) + 1 by omega, List.replicate_succ, List.set_cons_zero, stepN, List.take_add_one, hr]; simp [stepB]
theorem set_same {α : Type} {l : List α} {k : Nat} {x : α} (h : l[k]? = some x) : l.set k x = l := by
  apply List.ext_getElem?; intro i; by_cases e : k = i
  · subst e
    rw [List.getElem?_set_self (by rcases Nat.lt_or_ge k l.length with h1 | h1; exact h1; rw [List.getElem?_eq_none h1] at h; cases h), h]
  · rw [List.getElem?_set_ne e]
theorem any_snoc {α : Type} (l : List α) (p : α → Bool) (j : Nat) (x : α) (hx : l[j]? = some x) : (l.take (j + 1)).any p = ((l.take j).any p || p x) := by
  rw [List.take_add_one, hx]; simp
theorem hit_in {to_ : List Bool} {x : Int} {y : Bool} (h0 : 0 ≤ x) (h1 : x < to_.length) (hy : to_[x.toNat]? = some y) : hit to_ x = y := by
  unfold hit; rw [decide_eq_true h0, decide_eq_true h1, List.getD_eq_getElem?_getD, hy]; rfl
theorem hit_out {to_ : List Bool} {x : Int} (h : ¬ (0 ≤ x ∧ x < to_.length)) : hit to_ x = false := by
  unfold hit; by_cases h0 : 0 ≤ x
  · have : ¬ x < to_.length := fun h1 => h ⟨h0, h1⟩
    simp [this]
  · simp [h0]
def stepI (g : List (List Int)) (to_ : List Bool) (k : Nat) (r : List Int) (j : Nat) : List Bool := (stepN g to_ k).set k ((r.take j).any (hit to_))
theorem stepI_zero (g : List (List Int)) (to_ : List Bool) (k : Nat) (r : List Int) (h : k < g.length) : stepI g to_ k r 0 = stepN g to_ k := by
  rw [stepI, List.take_zero, List.any_nil, set_same (stepN_get g to_ k h)]
theorem stepI_len (g : List (List Int)) (to_ : List Bool) (k : Nat) (r : List Int) (j : Nat) (h : k < g.length) : (stepI g to_ k r j).length = g.length := by
  rw [stepI, List.length_set, stepN_len g to_ k (by omega)]
theorem stepI_get (g : List (List Int)) (to_ : List Bool) (k : Nat) (r : List Int) (j : Nat) (h : k < g.length) : (stepI g to_ k r j)[k]? = some ((r.take j).any (hit to_)) := by
  rw [stepI, List.getElem?_set_self (by rw [stepN_len g to_ k (by omega)]; exact h)]
theorem stepI_set (g : List (List Int)) (to_ : List Bool) (k : Nat) (r : List Int) (j : Nat) (x : Int) (hx : r[j]? = some x) (c : Bool) (hc : c = ((r.take j).any (hit to_) || hit to_ x)) : (stepI g to_ k r j).set k c = stepI g to_ k r (j + 1) := by
  rw [stepI, stepI, List.set_set, any_snoc r (hit to_) j x hx, hc]
theorem stepI_all (g : List (List Int)) (to_ : List Bool) (k : Nat) (r : List Int) (hr : g[k]? = some r) : stepI g to_ k r r.length = stepN g to_ (k + 1) := by
  rw [stepI, List.take_length, stepN_succ g to_ k r hr]
def itB (g : List (List Int)) : Nat → List Bool → List Bool
  | 0, b => b
  | n + 1, b => stepB g (itB g n b)
theorem itB_len (g : List (List Int)) (b : List Bool) (h : b.length = g.length) : ∀ n, (itB g n b).length = g.length
  | 0 => h
  | n + 1 => stepB_len g _
def loopsB (g : List (List Int)) : List Bool := itB g g.length (List.replicate g.length true)
def trues (n k : Nat) : List Bool := List.replicate k true ++ List.replicate (n - k) false
theorem trues_zero (n : Nat) : trues n 0 = List.replicate n false := by simp [trues]
theorem trues_all (n : Nat) : trues n n = List.replicate n true := by simp [trues]
theorem trues_len (n k : Nat) (h : k ≤ n) : (trues n k).length = n := by simp [trues]; omega
theorem trues_get (n k : Nat) (h : k < n) : (trues n k)[k]? = some false := by
  rw [trues, List.getElem?_append_right (by simp), List.length_replicate, Nat.sub_self, List.getElem?_replicate, if_pos (by omega)]
theorem trues_succ (n k : Nat) (h : k < n) : (trues n k).set k true = trues n (k + 1) := by
  rw [trues, List.set_append_right _ _ (by simp), List.length_replicate, Nat.sub_self, show n - k = (n - (k + 1)) + 1 by omega, List.replicate_succ, List.set_cons_zero, trues, List.replicate_succ']; simp
def pad (n : Nat) (to_ : List Bool) : List Bool := to_.take n ++ List.replicate (n - to_.length) false
theorem pad_len (n : Nat) (to_ : List Bool) : (pad n to_).length = n := by simp [pad]; omega
theorem pad_of (n : Nat) (to_ : List Bool) : to_.take (List.replicate n false).length ++ (List.replicate n false).drop to_.length = pad n to_ := by simp [pad]
def orN (out st : List Bool) (k : Nat) : List Bool := List.zipWith (· || ·) (out.take k) (st.take k) ++ out.drop k
theorem orN_zero (out st : List Bool) : orN out st 0 = out := by simp [orN]
theorem orN_len (out st : List Bool) (k : Nat) (h : st.length = out.length) (hk : k ≤ out.length) : (orN out st k).length = out.length := by simp [orN]; omega
theorem orN_get (out st : List Bool) (k : Nat) (b : Bool) (h : st.length = out.length) (hb : out[k]? = some b) : (orN out st k)[k]? = some b := by
  have hk : k < out.length := by
    rcases Nat.lt_or_ge k out.length with h1 | h1
    · exact h1
    · rw [List.getElem?_eq_none h1] at hb; cases hb
  (have hl : (List.zipWith (· || ·) (out.take k) (st.take k)).length = k := by simp; omega); rw [orN, List.getElem?_append_right (by omega), hl, Nat.sub_self, List.getElem?_drop, Nat.add_zero, hb]
theorem orN_succ (out st : List Bool) (k : Nat) (b c : Bool) (h : st.length = out.length) (hb : out[k]? = some b) (hc : st[k]? = some c) : (orN out st k).set k (b || c) = orN out st (k + 1) := by
  have hk : k < out.length := by
    rcases Nat.lt_or_ge k out.length with h1 | h1
    · exact h1
    · rw [List.getElem?_eq_none h1] at hb; cases hb
  have hl : (List.zipWith (· || ·) (out.take k) (st.take k)).length = k := by simp; omega
  have hd : out.drop k = b :: out.drop (k + 1) := by
    rw [List.drop_eq_getElem_cons hk]; congr 1; rw [List.getElem?_eq_getElem hk] at hb; injection hb
  rw [orN, List.set_append_right _ _ (by omega), hl, Nat.sub_self, hd, List.set_cons_zero, orN, List.take_add_one, List.take_add_one, hb, hc]; rw [List.zipWith_append (by simp; omega)]; simp
theorem orN_all (out st : List Bool) (h : st.length = out.length) : orN out st out.length = List.zipWith (· || ·) out st := by
  rw [orN, List.take_length, ← h, List.take_length, h, List.drop_length, List.append_nil]
def orB (out st : List Bool) : List Bool := List.zipWith (· || ·) out st
theorem orB_len (out st : List Bool) (h : st.length = out.length) : (orB out st).length = out.length := by simp [orB, h]
def reachIt (g : List (List Int)) : Nat → List Bool → List Bool
  | 0, b => b
  | n + 1, b => orB (reachIt g n b) (stepB g (reachIt g n b))
theorem reachIt_len (g : List (List Int)) (b : List Bool) (h : b.length = g.length) : ∀ n, (reachIt g n b).length = g.length
  | 0 => h
  | n + 1 => by rw [reachIt, orB_len _ _ (by rw [stepB_len, reachIt_len g b h n]), reachIt_len g b h n]
def reachB (g : List (List Int)) (to_ : List Bool) : List Bool := reachIt g g.length (pad g.length to_)
def hopRow (g : List (List Int)) (p : List Bool) (k n : Nat) : List Int := ((List.range n).filter fun i => (itB g i p).getD k false).map Int.ofNat
theorem hopRow_succ (g : List (List Int)) (p : List Bool) (k n : Nat) (b : Bool) (hb : (itB g n p)[k]? = some b) : hopRow g p k (n + 1) = hopRow g p k n ++ (if b then [(n : Int)] else []) := by
  rw [hopRow, List.range_succ, List.filter_append, List.map_append, hopRow]; congr 1; simp [List.filter_cons, List.getD_eq_getElem?_getD, hb]; cases b <;> simp
theorem hopRow_true (g : List (List Int)) (p : List Bool) (k n : Nat) (hb : (itB g n p)[k]? = some true) : hopRow g p k (n + 1) = hopRow g p k n ++ [(n : Int)] := by
  rw [hopRow_succ g p k n true hb]; rfl
theorem hopRow_len (g : List (List Int)) (p : List Bool) (k n : Nat) : (hopRow g p k n).length ≤ n := by
  rw [hopRow, List.length_map]; have := List.length_filter_le (fun i => (itB g i p).getD k false) (List.range n); simpa using this
def hopsI (g : List (List Int)) (p : List Bool) (n j : Nat) : List (List Int) := (List.range g.length).map fun k => hopRow g p k (if k < j then n + 1 else n)
theorem hopsI_len (g : List (List Int)) (p : List Bool) (n j : Nat) : (hopsI g p n j).length = g.length := by simp [hopsI]
theorem hopsI_get (g : List (List Int)) (p : List Bool) (n j : Nat) (h : j < g.length) : (hopsI g p n j)[j]? = some (hopRow g p j n) := by
  simp [hopsI, h]
theorem hopsI_next (g : List (List Int)) (p : List Bool) (n j : Nat) (h : j < g.length) : (hopsI g p n j).set j (hopRow g p j (n + 1)) = hopsI g p n (j + 1) := by
  apply List.ext_getElem
  · simp [hopsI]
  · intro i h1 h2
    simp only [hopsI, List.getElem_set, List.getElem_map, List.getElem_range]; by_cases e : j = i
    · subst e; simp
    · rw [if_neg e]
      congr 1; by_cases e2 : i < j
      · rw [if_pos e2, if_pos (by omega)]
      · rw [if_neg e2, if_neg (by omega)]
theorem hopsI_same (g : List (List Int)) (p : List Bool) (n j : Nat) (h : j < g.length) (hb : (itB g n p)[j]? = some false) : hopsI g p n j = hopsI g p n (j + 1) := by
  rw [← hopsI_next g p n j h, hopRow_succ g p j n false hb]; simp only [Bool.false_eq_true, if_false, List.append_nil]; rw [set_same (hopsI_get g p n j h)]
theorem hopsI_all (g : List (List Int)) (p : List Bool) (n : Nat) : hopsI g p n g.length = hopsI g p (n + 1) 0 := by
  simp only [hopsI]; apply List.map_congr_left; intro k hk; rw [if_pos (by simpa using hk), if_neg (by omega)]
theorem hopsI_zero (g : List (List Int)) (p : List Bool) : hopsI g p 0 0 = List.replicate g.length [] := by
  apply List.ext_getElem
  · simp [hopsI]
  · intro i h1 h2; simp [hopsI, hopRow]
def hopsB (g : List (List Int)) (to_ : List Bool) (most : Int) : List (List Int) := hopsI g (pad g.length to_) (min most 256 + 1).toNat 0
end Go.Proofs.Ytcagkdgpoijkoaa.FwP
end
