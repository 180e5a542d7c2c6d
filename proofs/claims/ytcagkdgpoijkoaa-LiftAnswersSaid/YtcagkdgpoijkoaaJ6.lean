/- Texts of this work, joined: LiN, PLfx13, PLfx33, PLfx34, PLfx35. -/
import Derived.Test.YtcagkdgpoijkoaaJ4
import Derived.Test.YtcagkdgpoijkoaaJ5
import Derived.Test.YtcagkdgpoijkoaaJ0
import Derived.Test.YtcagkdgpoijkoaaJ3
section
namespace Go.Proofs.Ytcagkdgpoijkoaa.LiN
open Go.RowKit Go.Proofs.Ytcagkdgpoijkoaa.PLf Go.Proofs.YtcagkdgpoijkoaaW.PrintWords Go.Proofs.YtcagkdgpoijkoaaW.PrintLast Go.Proofs.YtcagkdgpoijkoaaW.PrintMore Go.Proofs.Ytcagkdgpoijkoaa.Low
open Go.Proofs.Ytcagkdgpoijkoaa.Mq (Pf Rt Cl Ed Mp Lk)
set_option linter.unusedVariables false
set_option linter.unusedSimpArgs false
set_option linter.all false
abbrev P2 := S35
abbrev RT := S91
abbrev MP := S86
abbrev AT := S41
abbrev ED := S51
abbrev CL := S116
abbrev AN := S61
theorem up {α : Type} {F : Nat → Option α} (h : ∀ k, LeO (F k) (F (k + 1))) {k k' : Nat} (hk : k ≤ k') {r : α} (e : F k = some r) : F k' = some r := by
  induction hk with
  | refl => exact e
  | step _ ih => exact h _ _ ih
theorem w1 {i : Nat} (h : i < 9223372036854775807) : wrap64 ((i : Int) + 1) = ((i + 1 : Nat) : Int) := by unfold wrap64; omega
theorem covers_ok (a b c d : Int) : ∃ r, prefix_Covers.f a b c d = some r := ⟨_, rfl⟩
theorem matches_ok (c : CL) (p0 p1 t : Int) : ∃ r, clause_Matches.f c.f0 c.f1.f0 c.f1.f1 c.f2 c.f3 c.f4 c.f5 c.f6 c.f7 c.f8 p0 p1 t = some r := by
  unfold clause_Matches.f
  obtain ⟨q, hq⟩ := covers_ok c.f1.f0 c.f1.f1 p0 p1
  rw [hq, Option.bind_some]
  repeat (first | exact ⟨_, rfl⟩ | split)
theorem do_l (cs : List CL) (hn : cs.length ≤ 4611686018427387904) (p0 p1 : Int) (b : Bool) (x1 x2 x3 : Int) : ∀ d i, i + d = cs.length → ∃ k r, clause_Do.l0 k cs (cs.length : Int) (i : Int) p0 p1 b x1 x2 x3 = some r
  | 0, i, h => ⟨1, (b, x1, x2, x3), by rw [clause_Do.l0, if_neg (by omega)]⟩
  | d + 1, i, h => by
    obtain ⟨k, r, hk⟩ := do_l cs hn p0 p1 b x1 x2 x3 d (i + 1) (by omega)
    obtain ⟨q, hq⟩ := matches_ok (rd_T116 cs (i : Int)) p0 p1 x3
    refine ⟨k + 1, ?_⟩
    rw [clause_Do.l0, if_pos (by omega), if_pos (by omega), if_pos (by omega), hq, Option.bind_some, w1 (by omega), hk]
    repeat (first | exact ⟨_, rfl⟩ | split)
theorem do_ok (cs : List CL) (hn : cs.length ≤ 4611686018427387904) (p0 p1 : Int) (b : Bool) (x1 x2 x3 : Int) : ∃ k r, clause_Do.f k cs p0 p1 b x1 x2 x3 = some r := by
  obtain ⟨k, r, h⟩ := do_l cs hn p0 p1 b x1 x2 x3 cs.length 0 (by omega)
  refine ⟨k, ?_⟩
  unfold clause_Do.f
  rw [show ((0 : Nat) : Int) = 0 from rfl] at h
  rw [h]
  repeat (first | exact ⟨_, rfl⟩ | split)
theorem take_ok (a0 a1 : Int) (x y : List CL) (hx : x.length ≤ 4611686018427387904) (hy : y.length ≤ 4611686018427387904) (b : Bool) (x1 x2 x3 : Int) : ∃ k r, edge_Take.f k a0 a1 x y b x1 x2 x3 = some r := by
  obtain ⟨k, r, h⟩ := do_ok x hx 0 0 b x1 x2 x3
  obtain ⟨k2, r2, h2⟩ := do_ok y hy 0 0 r.1 100 (wrap64 (r.2.2.1 + (mx 1 (mn a1 1000)))) r.2.2.2
  refine ⟨k + k2, ?_⟩
  unfold edge_Take.f
  rw [up (F := fun k => clause_Do.f k x 0 0 b x1 x2 x3) (fun k => clause_Do.mono _ _ _ _ _ _ _ k) (Nat.le_add_right k k2) h, Option.bind_some, up (F := fun k => clause_Do.f k y 0 0 r.1 100 (wrap64 (r.2.2.1 + (mx 1 (mn a1 1000)))) r.2.2.2) (fun k => clause_Do.mono _ _ _ _ _ _ _ k) (Nat.le_add_left k2 k) h2, Option.bind_some]
  repeat (first | exact ⟨_, rfl⟩ | split)
def okE (e : ED) : Prop := e.f2.length ≤ 4611686018427387904 ∧ e.f3.length ≤ 4611686018427387904
theorem okE_rd {es : List ED} (hE : ∀ e ∈ es, okE e) (i : Int) : okE (rd_T51 es i) := by
  unfold rd_T51
  rw [List.getD_eq_getElem?_getD]
  cases h : es[i.toNat]? with
  | none => exact ⟨by show (0 : Nat) ≤ _; omega, by show (0 : Nat) ≤ _; omega⟩
  | some e => exact hE e (List.mem_of_getElem? h)
theorem offers_l (L : List AT) (es : List ED) (hE : ∀ e ∈ es, okE e) (hn : es.length ≤ 1000000) : ∀ d i (acc : List AT), i + d = es.length → acc.length = i → ∃ k r, stable_Offers.l0 k L acc es (es.length : Int) (i : Int) = some r ∧ r.length = es.length
  | 0, i, acc, h, ha => ⟨1, acc, by rw [stable_Offers.l0, if_neg (by omega)], by omega⟩
  | d + 1, i, acc, h, ha => by
    have hz : ∃ k r, stable_Offers.l0 k L (acc ++ [⟨false, 0, 0, 0⟩]) es (es.length : Int) ((i + 1 : Nat) : Int) = some r ∧ r.length = es.length := offers_l L es hE hn d (i + 1) _ (by omega) (by simp [ha])
    obtain ⟨k0, r0, hz, hl0⟩ := hz
    have he := okE_rd hE (i : Int)
    obtain ⟨k1, r1, ht⟩ := take_ok (rd_T51 es (i : Int)).f0 (rd_T51 es (i : Int)).f1 _ _ he.1 he.2 (rd_T41 L (rd_T51 es (i : Int)).f0).f0 (rd_T41 L (rd_T51 es (i : Int)).f0).f1 (rd_T41 L (rd_T51 es (i : Int)).f0).f2 (rd_T41 L (rd_T51 es (i : Int)).f0).f3
    have hy : ∃ k r, stable_Offers.l0 k L (acc ++ [⟨r1.1, r1.2.1, r1.2.2.1, r1.2.2.2⟩]) es (es.length : Int) ((i + 1 : Nat) : Int) = some r ∧ r.length = es.length := offers_l L es hE hn d (i + 1) _ (by omega) (by simp [ha])
    obtain ⟨k2, r2, hy, hl2⟩ := hy
    by_cases c1 : (rd_T51 es (i : Int)).f0 ≥ 0
    · by_cases c2 : (rd_T51 es (i : Int)).f0 < (L.length : Int)
      · refine ⟨k1 + k2 + 1, r2, ?_, hl2⟩
        rw [stable_Offers.l0, if_pos (by omega), if_pos (by omega), if_pos (by omega), if_pos c1, if_pos c2, if_pos (by omega), up (F := fun k => edge_Take.f k _ _ _ _ _ _ _ _) (fun k => edge_Take.mono _ _ _ _ _ _ _ _ k) (Nat.le_add_right k1 k2) ht, Option.bind_some, if_pos (by omega), w1 (by omega)]
        exact up (F := fun k => stable_Offers.l0 k _ _ _ _ _) (fun k => (stable_Offers.mono_l k).2 _ _ _ _ _) (Nat.le_add_left k2 k1) hy
      · refine ⟨k0 + 1, r0, ?_, hl0⟩
        rw [stable_Offers.l0, if_pos (by omega), if_pos (by omega), if_pos (by omega), if_pos c1, if_neg c2, if_pos (by omega), w1 (by omega)]
        exact hz
    · refine ⟨k0 + 1, r0, ?_, hl0⟩
      rw [stable_Offers.l0, if_pos (by omega), if_pos (by omega), if_pos (by omega), if_neg c1, if_pos (by omega), w1 (by omega)]
      exact hz
structure NetOk (o : List Bool) (s : List Int) (E : List (List ED)) : Prop where
  l : o.length ≤ 1000000
  e : ∀ es ∈ E, es.length ≤ 1000000 ∧ ∀ e ∈ es, okE e
theorem offers_ok (o : List Bool) (s : List Int) (E : List (List ED)) (h : NetOk o s E) (L : List AT) (j : Nat) : ∃ k r, stable_Offers.f k o s E L (j : Int) = some r ∧ r.length ≤ (E.getD j []).length := by
  unfold stable_Offers.f
  by_cases c : j < E.length
  · have e : E.getD j [] = E[j] := by rw [List.getD_eq_getElem?_getD, List.getElem?_eq_getElem c]; rfl
    have hm := h.e E[j] (List.getElem_mem c)
    obtain ⟨k, r, hk, hl⟩ := offers_l L E[j] hm.2 hm.1 E[j].length 0 [] (by omega) rfl
    refine ⟨k + 1, r, ?_, by rw [e]; omega⟩
    rw [if_neg (by omega), stable_Offers.j0, if_neg (by simp; omega), if_pos (by omega), if_pos (by omega)]
    have e2 : rd_L23 E (j : Int) = E[j] := e
    rw [e2]
    exact hk
  · refine ⟨1, [], ?_, by simp⟩
    rw [if_neg (by omega), stable_Offers.j0, if_pos (by simp; omega)]
theorem fixed_ok (o : List Bool) (s : List Int) (E : List (List ED)) (j : Nat) : ∃ r, stable_Fixed.f o s E (j : Int) = some r := by
  unfold stable_Fixed.f
  repeat (first | exact ⟨_, rfl⟩ | split)
theorem better_ok (b : Bool) (x1 x2 x3 : Int) (c : Bool) (y1 y2 y3 : Int) (k : Nat) : ∃ r, attr_Better.f (k + 1) b x1 x2 x3 c y1 y2 y3 = some r := by
  unfold attr_Better.f
  repeat (first | exact ⟨_, rfl⟩ | rw [attr_Better.j0] | split)
theorem best_l (L : List AT) (hn : L.length ≤ 4611686018427387904) : ∀ d i (b : Bool) (x1 x2 x3 : Int), i + d = L.length → ∃ k r, attr_Best.l0 k L (L.length : Int) (i : Int) b x1 x2 x3 = some r
  | 0, i, b, x1, x2, x3, h => ⟨1, (b, x1, x2, x3), by rw [attr_Best.l0, if_neg (by omega)]⟩
  | d + 1, i, b, x1, x2, x3, h => by
    obtain ⟨k1, r1, h1⟩ := best_l L hn d (i + 1) b x1 x2 x3 (by omega)
    obtain ⟨k2, r2, h2⟩ := best_l L hn d (i + 1) (rd_T41 L (i : Int)).f0 (rd_T41 L (i : Int)).f1 (rd_T41 L (i : Int)).f2 (rd_T41 L (i : Int)).f3 (by omega)
    obtain ⟨q, hq⟩ := better_ok (rd_T41 L (i : Int)).f0 (rd_T41 L (i : Int)).f1 (rd_T41 L (i : Int)).f2 (rd_T41 L (i : Int)).f3 b x1 x2 x3 (k1 + k2)
    refine ⟨k1 + k2 + 1 + 1, ?_⟩
    rw [attr_Best.l0, if_pos (by omega), if_pos (by omega), if_pos (by omega), hq, Option.bind_some, w1 (by omega)]
    rw [up (F := fun k => attr_Best.l0 k L (L.length : Int) ((i + 1 : Nat) : Int) b x1 x2 x3) (fun k => attr_Best.mono_l k _ _ _ _ _ _ _) (by omega : k1 ≤ k1 + k2 + 1) h1]
    rw [up (F := fun k => attr_Best.l0 k L (L.length : Int) ((i + 1 : Nat) : Int) _ _ _ _) (fun k => attr_Best.mono_l k _ _ _ _ _ _ _) (by omega : k2 ≤ k1 + k2 + 1) h2]
    repeat (first | exact ⟨_, rfl⟩ | split)
theorem best_ok (L : List AT) (hn : L.length ≤ 4611686018427387904) : ∃ k r, attr_Best.f k L = some r := by
  obtain ⟨k, r, h⟩ := best_l L hn L.length 0 false 0 0 0 (by omega)
  exact ⟨k, r, h⟩
theorem choice_ok (o : List Bool) (s : List Int) (E : List (List ED)) (h : NetOk o s E) (L : List AT) (j : Nat) : ∃ k r, stable_Choice.f k o s E L (j : Int) = some r := by
  obtain ⟨q, hq⟩ := fixed_ok o s E j
  obtain ⟨k1, r1, h1, hl⟩ := offers_ok o s E h L j
  have hb : r1.length ≤ 4611686018427387904 := by
    have : (E.getD j []).length ≤ 1000000 := by
      rw [List.getD_eq_getElem?_getD]
      cases e : E[j]? with
      | none => exact Nat.zero_le _
      | some es => exact (h.e es (List.mem_of_getElem? e)).1
    omega
  obtain ⟨k2, r2, h2⟩ := best_ok r1 hb
  refine ⟨k1 + k2, ?_⟩
  unfold stable_Choice.f
  rw [hq, Option.bind_some, up (F := fun k => stable_Offers.f k o s E L (j : Int)) (fun k => stable_Offers.mono _ _ _ _ _ k) (Nat.le_add_right k1 k2) h1, Option.bind_some, up (F := fun k => attr_Best.f k r1) (fun k => attr_Best.mono _ k) (Nat.le_add_left k2 k1) h2, Option.bind_some]
  repeat (first | exact ⟨_, rfl⟩ | split)
theorem of_at (o : List Bool) (s : List Int) (E : List (List ED)) (h : NetOk o s E) (L : List AT) : ∃ K G, (∀ k, K ≤ k → forward_Of.f k o s E L = some G) ∧ G.length = o.length := by
  have hall : ∀ n : Nat, ∃ K, ∀ j : Nat, j < n → ∃ r, stable_Offers.f K o s E L (j : Int) = some r ∧ r.length ≤ (E.getD j []).length := by
    intro n
    induction n with
    | zero => exact ⟨0, fun j hj => absurd hj (by omega)⟩
    | succ n ih =>
      obtain ⟨K, hK⟩ := ih
      obtain ⟨k, r, hk, hl⟩ := offers_ok o s E h L n
      refine ⟨K + k, fun j hj => ?_⟩
      by_cases hjn : j < n
      · obtain ⟨r, hr, hl⟩ := hK j hjn
        exact ⟨r, up (F := fun k => stable_Offers.f k o s E L (j : Int)) (fun k => stable_Offers.mono _ _ _ _ _ k) (Nat.le_add_right K k) hr, hl⟩
      · obtain rfl : j = n := by omega
        exact ⟨r, up (F := fun k => stable_Offers.f k o s E L (j : Int)) (fun k => stable_Offers.mono _ _ _ _ _ k) (Nat.le_add_left k K) hk, hl⟩
  obtain ⟨K, hK⟩ := hall o.length
  have hok : forward_Of.ok K o s E L = true := by
    unfold forward_Of.ok
    have hol := h.l
    simp only [Bool.and_eq_true, decide_eq_true_eq, List.all_eq_true]
    refine ⟨by omega, fun j hj => ?_⟩
    obtain ⟨r, hr, hl⟩ := hK j (List.mem_range.1 hj)
    have hb : (E.getD j []).length ≤ 1000000 := by
      rw [List.getD_eq_getElem?_getD]
      cases e : E[j]? with
      | none => exact Nat.zero_le _
      | some es => exact (h.e es (List.mem_of_getElem? e)).1
    rw [hr]
    simp only [Bool.and_eq_true, decide_eq_true_eq]
    exact ⟨by omega, hl⟩
  refine ⟨K, _, fun k hk => up (F := fun k => forward_Of.f k o s E L) (fun k => forward_Of.mono _ _ _ _ k) hk (by unfold forward_Of.f; rw [if_pos hok]), ?_⟩
  exact OfP.ofN_len _ _ _
def ans (H : List (List Int)) (R P : List Bool) (i : Nat) : AN := ⟨R.getD i false, P.getD i false, H.getD i []⟩
theorem ans_l (H : List (List Int)) (R P : List Bool) (n : Nat) (hn : n ≤ 1000000) (hH : H.length = n) (hR : R.length = n) (hP : P.length = n) : ∀ d i (acc : List AN), i + d = n → acc.length = i → ∃ k, lift_Answers.l0 k H R P acc (n : Int) (i : Int) = some (acc ++ (List.range' i d).map (ans H R P))
  | 0, i, acc, h, ha => ⟨1, by rw [lift_Answers.l0, if_neg (by omega)]; simp⟩
  | d + 1, i, acc, h, ha => by
    obtain ⟨k, hk⟩ := ans_l H R P n hn hH hR hP d (i + 1) (acc ++ [ans H R P i]) (by omega) (by simp [ha])
    refine ⟨k + 1, ?_⟩
    rw [lift_Answers.l0, if_pos (by omega), if_pos (by omega), if_pos (by omega), if_pos (by omega), if_pos (by omega), if_pos (by omega), w1 (by omega)]
    refine Eq.trans hk ?_
    rw [List.range'_succ, List.map_cons, List.append_assoc]
    rfl
open Go.Proofs.Ytcagkdgpoijkoaa.FwP (hopsB reachB loopsB) in
theorem answers_at (o : List Bool) (s : List Int) (E : List (List ED)) (h : NetOk o s E) (L : List AT) (m : Int) : ∃ K G, (∀ k, K ≤ k → forward_Of.f k o s E L = some G) ∧ G.length = o.length ∧ ∀ k, K ≤ k → lift_Answers.f k o s E L m = some ((List.range o.length).map (ans (hopsB G o m) (reachB G o) (loopsB G))) := by
  obtain ⟨K, G, hG, hl⟩ := of_at o s E h L
  have hol := h.l
  have hLl : (loopsB G).length = G.length := by
    unfold loopsB
    exact FwP.itB_len G _ (by simp) _
  obtain ⟨k, hk⟩ := ans_l (hopsB G o m) (reachB G o) (loopsB G) o.length hol (by rw [FwQ.hopsB_len, hl]) (by rw [FwQ.reachB_len, hl]) (by rw [hLl, hl]) o.length 0 [] (by omega) rfl
  refine ⟨K + k, G, fun k' hk' => hG k' (by omega), hl, fun k' hk' => ?_⟩
  unfold lift_Answers.f
  rw [hG k' (by omega), Option.bind_some]
  unfold forward_Hops.f forward_Reach.f forward_Loops.f
  rw [if_pos (by omega), if_pos (by omega), if_pos (by omega), Option.bind_some, Option.bind_some, Option.bind_some, hl]
  refine (up (F := fun k => lift_Answers.l0 k _ _ _ _ _ _) (fun k => lift_Answers.mono_l k _ _ _ _ _ _) (by omega : k ≤ k') hk).trans ?_
  rw [List.nil_append, List.range_eq_range']
def cls (R : List RT) : List P2 := (classesB (R.map toRt)).map frPf
theorem frEd_ok (N : Nat) (h : N ≤ 4611686018427387904) (y : Ed) (h1 : y.exp.length ≤ N) (h2 : y.imp.length ≤ N) : okE (frEd y) := by
  have e1 : (frEd y).f2.length = y.exp.length := List.length_map _
  have e2 : (frEd y).f3.length = y.imp.length := List.length_map _
  exact ⟨by omega, by omega⟩
theorem for_len (td : Pf) : ∀ cs : List Cl, (Cls.forB td cs).length ≤ cs.length
  | [] => Nat.le_refl _
  | c :: r => by
    have ih := for_len td r
    unfold Cls.forB
    rw [List.length_cons]
    split
    · omega
    · rw [List.length_cons]
      split
      · exact Nat.succ_le_succ (Nat.zero_le _)
      · omega
theorem clauses_len (ms : List Mp) (N : Nat) (h : ∀ m ∈ ms, m.clauses.length ≤ N) (name : Mq.Str) (td : Pf) : (Low.clausesB ms name td).length ≤ N := by
  unfold Low.clausesB
  cases e : ms.find? (fun m => m.name == name) with
  | none => exact Nat.zero_le _
  | some m => exact Nat.le_trans (for_len td _) (h m (List.mem_of_find?_eq_some e))
structure Fit (M : List MP) (R : List RT) : Prop where
  l : R.length ≤ 1000
  r : ∀ r ∈ R, r.f0.size ≤ 1000 ∧ r.f1.length ≤ 1000 ∧ r.f2.length ≤ 1000 ∧ (∀ l ∈ r.f2, l.f0.size ≤ 1000) ∧ ∀ y ∈ r.f3, y.f1.size ≤ 1000
  m : ∀ m ∈ M, m.f1.length ≤ 1000
def netO (R : List RT) (a b : Int) : List Bool := (R.map toRt).map (orgB ⟨a, b⟩)
def netS (R : List RT) (a b : Int) : List Int := (R.map toRt).map (wayB ⟨a, b⟩ (R.map toRt))
def netE (M : List MP) (R : List RT) (a b : Int) : List (List ED) := ((R.map toRt).map (edgesB ⟨a, b⟩ (M.map toMp) (R.map toRt))).map fun es => es.map frEd
theorem net_ok (M : List MP) (R : List RT) (hF : Fit M R) (a b : Int) : NetOk (netO R a b) (netS R a b) (netE M R a b) := by
  refine ⟨?_, ?_⟩
  · have := hF.l
    unfold netO
    rw [List.length_map, List.length_map]
    omega
  · intro es hes
    unfold netE at hes
    obtain ⟨es', hes', rfl⟩ := List.mem_map.1 hes
    obtain ⟨r', hr', rfl⟩ := List.mem_map.1 hes'
    obtain ⟨r, hr, rfl⟩ := List.mem_map.1 hr'
    have hr1 := hF.r r hr
    refine ⟨?_, ?_⟩
    · rw [List.length_map]
      unfold edgesB
      refine Nat.le_trans (List.length_filterMap_le _ _) ?_
      show (r.f2.map toLk).length ≤ _
      rw [List.length_map]
      omega
    · intro e he
      obtain ⟨y, hy, rfl⟩ := List.mem_map.1 he
      unfold edgesB at hy
      obtain ⟨l, -, hl⟩ := List.mem_filterMap.1 hy
      unfold edgeB at hl
      obtain ⟨k, -, rfl⟩ := Option.map_eq_some_iff.1 hl
      have hM : ∀ m ∈ M.map toMp, m.clauses.length ≤ 1000 := by
        intro m hm
        obtain ⟨m', hm', rfl⟩ := List.mem_map.1 hm
        show (m'.f1.map toCl).length ≤ 1000
        rw [List.length_map]
        exact hF.m m' hm'
      exact frEd_ok 1000 (by omega) _ (clauses_len _ _ hM _ _) (clauses_len _ _ hM _ _)
theorem maxLen_1000 : 1000 ≤ maxLen := by unfold maxLen; decide
theorem net_at (M : List MP) (R : List RT) (hF : Fit M R) (a b : Int) : lower_Net.f M R a b = some (netO R a b, netS R a b, netE M R a b) := by
  have h0 := maxLen_1000
  have hok : lower_Net.ok M R = true := by
    unfold lower_Net.ok
    simp only [Bool.and_eq_true, decide_eq_true_eq, List.all_eq_true]
    refine ⟨⟨by have := hF.l; omega, fun r hr => ?_⟩, fun m hm => by have := hF.m m hm; omega⟩
    obtain ⟨h1, h2, h3, h4, h5⟩ := hF.r r hr
    exact ⟨⟨⟨by omega, by omega⟩, fun l hl => by have := h4 l hl; omega⟩, fun y hy => by have := h5 y hy; omega⟩
  unfold lower_Net.f
  rw [if_pos hok]
  rfl
theorem classes_at (M : List MP) (R : List RT) (hF : Fit M R) : lower_Classes.f M R = some (cls R) := by
  have hs : ∀ (X : List RT), (∀ r ∈ X, r.f1.length ≤ 1000) → (X.map fun r => r.f1.length).sum ≤ X.length * 1000 := by
    intro X
    induction X with
    | nil => intro _; exact Nat.le_refl _
    | cons r X ih =>
      intro h
      have h1 := ih fun x hx => h x (.tail _ hx)
      have h2 := h r (.head _)
      simp only [List.map_cons, List.sum_cons, List.length_cons]
      omega
  have h1 := hs R fun r hr => (hF.r r hr).2.1
  have h2 := hF.l
  unfold lower_Classes.f
  rw [if_pos (Nat.le_trans h1 (by omega))]
  rfl
theorem config_fit {a0 : Int} {ls : List Int} {mp : List (List Cfg.SU)} {ns nt ws : List Int} (h : Cfg.Shape a0 ls mp ns nt ws) : Fit (Cfg.cmaps mp) (Cfg.crouts a0 ls mp ns nt ws) := by
  have hn : (a0 % 8).toNat < 8 := by omega
  have hnm : ∀ k, (Cfg.nm k).size ≤ 1000 := fun k => by show (2 : Nat) ≤ 1000; omega
  have hL : ∀ k, (Cfg.lnks ls ns mp.length (a0 % 8).toNat k).length ≤ 1000 ∧ ∀ l ∈ Cfg.lnks ls ns mp.length (a0 % 8).toNat k, l.f0.size ≤ 1000 := by
    intro k
    unfold Cfg.lnks Cfg.lnksFrom
    refine ⟨?_, ?_⟩
    · rw [List.length_map]
      refine Nat.le_trans (List.length_filter_le _ _) ?_
      rw [List.length_range']
      omega
    · intro l hl
      obtain ⟨j, -, rfl⟩ := List.mem_map.1 hl
      exact hnm j
  refine ⟨?_, ?_, ?_⟩
  · unfold Cfg.crouts
    rw [List.length_map, List.length_range]
    omega
  · intro r hr
    unfold Cfg.crouts at hr
    obtain ⟨k, -, rfl⟩ := List.mem_map.1 hr
    refine ⟨hnm k, ?_, (hL k).1, (hL k).2, ?_⟩
    · show (Cfg.netsOf nt k).length ≤ 1000
      unfold Cfg.netsOf
      split <;> simp
    · intro y hy
      have hy : y ∈ Cfg.statsOf ws (Cfg.lnks ls ns mp.length (a0 % 8).toNat k) k := hy
      unfold Cfg.statsOf at hy
      split at hy
      · obtain rfl := List.mem_singleton.1 hy
        show ((Cfg.lnks ls ns mp.length (a0 % 8).toNat k).getD _ _).f0.size ≤ 1000
        rw [List.getD_eq_getElem?_getD]
        cases e : (Cfg.lnks ls ns mp.length (a0 % 8).toNat k)[Cfg.num ws k / 8 % (Cfg.lnks ls ns mp.length (a0 % 8).toNat k).length]? with
        | none => show (0 : Nat) ≤ 1000; omega
        | some l => exact (hL k).2 l (List.mem_of_getElem? e)
      · cases hy
  · have hm : ∀ (X : List (List Cfg.SU)) i, ∀ m ∈ Cfg.mapsFrom i X, m.f1.length ≤ 1000 := by
      intro X
      induction X with
      | nil => intro i m hm; cases hm
      | cons x X ih =>
        intro i m hm
        unfold Cfg.mapsFrom at hm
        split at hm
        · rcases List.mem_cons.1 hm with rfl | hm
          · show (Cfg.clausesOf x).length ≤ 1000
            unfold Cfg.clausesOf
            rw [List.length_map, List.length_take]
            omega
          · exact ih _ m hm
        · exact ih _ m hm
    exact hm mp 0
theorem lnet_at {a0 : Int} {ls : List Int} {mp : List (List Cfg.SU)} {ns nt ws : List Int} (h : Cfg.Shape a0 ls mp ns nt ws) (a1 : Int) (ha1 : 0 ≤ a1 ∧ a1 ≤ 255) : ∃ K o s E p0 p1 b, (∀ k, K ≤ k → maquettelaw15_Net.f k a0 ls mp ns nt ws a1 = some (o, s, E, p0, p1, b)) ∧ (b = true → ∃ p0 p1, o = netO (Cfg.crouts a0 ls mp ns nt ws) p0 p1 ∧ s = netS (Cfg.crouts a0 ls mp ns nt ws) p0 p1 ∧ E = netE (Cfg.cmaps mp) (Cfg.crouts a0 ls mp ns nt ws) p0 p1) := by
  obtain ⟨K, hK⟩ := Cfg.config_at h
  have hF := config_fit h
  by_cases hc : (cls (Cfg.crouts a0 ls mp ns nt ws)).length = 0
  · refine ⟨K, [], [], [], 0, 0, false, fun k hk => ?_, fun hb => by cases hb⟩
    unfold maquettelaw15_Net.f
    rw [hK k hk, Option.bind_some, classes_at _ _ hF, Option.bind_some, if_pos (by omega)]
  · obtain ⟨q, hq⟩ : ∃ q, q = rd_T35 (cls (Cfg.crouts a0 ls mp ns nt ws)) (a1 % ((cls (Cfg.crouts a0 ls mp ns nt ws)).length : Int)) := ⟨_, rfl⟩
    refine ⟨K, netO (Cfg.crouts a0 ls mp ns nt ws) q.f0 q.f1, netS (Cfg.crouts a0 ls mp ns nt ws) q.f0 q.f1, netE (Cfg.cmaps mp) (Cfg.crouts a0 ls mp ns nt ws) q.f0 q.f1, q.f0, q.f1, true, fun k hk => ?_, fun _ => ⟨q.f0, q.f1, rfl, rfl, rfl⟩⟩
    have e1 : wrap64 a1 = a1 := by unfold wrap64; omega
    have e2 : Int.tmod a1 ((cls (Cfg.crouts a0 ls mp ns nt ws)).length : Int) = a1 % ((cls (Cfg.crouts a0 ls mp ns nt ws)).length : Int) := Int.tmod_eq_emod_of_nonneg ha1.1
    have e3 := Int.emod_nonneg a1 (show ((cls (Cfg.crouts a0 ls mp ns nt ws)).length : Int) ≠ 0 by omega)
    have e4 := Int.emod_lt_of_pos a1 (show 0 < ((cls (Cfg.crouts a0 ls mp ns nt ws)).length : Int) by omega)
    unfold maquettelaw15_Net.f
    rw [hK k hk, Option.bind_some, classes_at _ _ hF, Option.bind_some, if_neg (by omega), e1, e2, if_pos e3, if_pos e4, ← hq, net_at _ _ hF, Option.bind_some]
end Go.Proofs.Ytcagkdgpoijkoaa.LiN
end
section
namespace Go.Proofs.Ytcagkdgpoijkoaa.PLf
open Go.RowKit Go.Proofs.Ytcagkdgpoijkoaa.Short Go.Proofs.YtcagkdgpoijkoaaW.PrintWords Go.Proofs.YtcagkdgpoijkoaaW.PrintLast Go.Proofs.YtcagkdgpoijkoaaW.PrintMore
attribute [local go_sem] max2_int min2_int max_two min_two max_three min_three max_four min_four
set_option linter.unusedVariables false
set_option linter.unusedSimpArgs false
def maquettelaw15_Some.l0 : Nat → List Int → List (S41) → Int → Int → Option ((List (S41)))
 | 0, _, _, _, _ => none
 | k + 1, x0, x5, x10, x11 => if x11 < x10 then (if x11 < (x0.length : Int) then (if 0 ≤ x11 then (if (Int.tmod (rd x0 x11) 4) > 0 then (if x11 < (x5.length : Int) then (maquettelaw15_Some.l0 k x0 (x5.set (x11 : Int).toNat (⟨true, wrap64 (100 + (wrap64 (Int.tdiv (wrap64 (Int.tmod (rd x0 x11) 4)) 3))), wrap64 (Int.tmod (IntKind.u16.wrap (Int.tdiv (rd x0 x11) 64)) 16), (Int.tmod (IntKind.u16.wrap (Int.tdiv (rd x0 x11) 4)) 16) % 256⟩ : S41)) x10 (wrap64 (x11 + 1))) else (none)) else (maquettelaw15_Some.l0 k x0 x5 x10 (wrap64 (x11 + 1)))) else (none)) else (maquettelaw15_Some.l0 k x0 x5 x10 (wrap64 (x11 + 1)))) else (some x5)
def maquettelaw15_Some.f (k : Nat) (l0 : List Int) (a1 : Int) : Option ((List (S41))) := if 0 ≤ a1 then (if (a1 : Int).toNat ≤ 8796093022208 then ((some (List.replicate (a1 : Int).toNat z41 : List (S41))).bind fun y198 => (maquettelaw15_Some.l0 k l0 y198 (y198.length : Int) 0)) else (none)) else (none)
theorem maquettelaw15_Some.mono_l : ∀ k, (∀ y0 y1 y2 y3, LeO (maquettelaw15_Some.l0 k y0 y1 y2 y3) (maquettelaw15_Some.l0 (k + 1) y0 y1 y2 y3))
 | 0 => fun _ _ _ _ r h => by simp [maquettelaw15_Some.l0] at h
 | k + 1 => by
  have ih0 := maquettelaw15_Some.mono_l k
  ·intro y0 y1 y2 y3
   unfold maquettelaw15_Some.l0; repeat' first
   | (with_reducible exact ih0 _ _ _ _)
   | (with_reducible exact LeO.refl _)
   | (with_reducible exact LeO.none _)
   | (with_reducible refine LeO.ite ?_ ?_)
   | (with_reducible refine LeO.bind ?_ (fun _ => ?_))
   | exact ih0 _ _ _ _
   | exact LeO.none _
   | refine LeO.ite ?_ ?_
   | refine LeO.bind ?_ (fun _ => ?_)
theorem maquettelaw15_Some.mono : ∀ a0 a1 k, LeO (maquettelaw15_Some.f k a0 a1) (maquettelaw15_Some.f (k + 1) a0 a1) := by
 intro a0 a1 k; have ih0 := maquettelaw15_Some.mono_l k; unfold maquettelaw15_Some.f
 repeat' first
   | (with_reducible exact ih0 _ _ _ _)
   | (with_reducible exact LeO.refl _)
   | (with_reducible exact LeO.none _)
   | (with_reducible refine LeO.ite ?_ ?_)
   | (with_reducible refine LeO.bind ?_ (fun _ => ?_))
   | exact ih0 _ _ _ _
   | exact LeO.none _
   | refine LeO.ite ?_ ?_
   | refine LeO.bind ?_ (fun _ => ?_)
def maquettelaw15_Some.T6 : Bool × List (List Nat × List Nat) := (true, [([], []), ([], []), ([], []), ([], []), ([2, 3], [2, 3]), ([4], [4]), ([5], [5]), ([6], [6]), ([7], [7]), ([8], [8]), ([], []), ([], []), ([10, 11], [10, 11]), ([12], [12]), ([13], [13]), ([14], [14]), ([15], [15]), ([], []), ([], []), ([17, 18], [17, 18]), ([19], [19]), ([20], [20]), ([21], [21]), ([22], [22]), ([9, 16, 23], [9, 16, 23]), ([0, 1, 0, 1, 2, 3, 4, 5, 6, 7, 8, 9, 10, 11, 12, 13, 14, 15, 16, 17, 18, 19, 20, 21, 22, 23, 24], [0, 1]), ([25, 24, 0, 1, 2, 3, 4, 5, 6, 7, 8, 9, 10, 11, 12, 13, 14, 15, 16, 17, 18, 19, 20, 21, 22, 23, 24], [24, 25])])
def maquettelaw15_Some.B6 : List Nat := [0, 0, 0, 0, 12, 28, 60, 124, 252, 508, 0, 0, 3072, 7168, 15360, 31744, 64512, 0, 0, 393216, 917504, 1966080, 4063232, 8257536, 16777212, 33554431, 67108863]
theorem maquettelaw15_Some.tab6 : rtab .any (opsOf Try.f9 6) = maquettelaw15_Some.T6 := by kernel_rfl
theorem maquettelaw15_Some.bits6 : waitsOk maquettelaw15_Some.T6.2 maquettelaw15_Some.B6 = true := by kernel_rfl
set_option maxHeartbeats 8000000 in
set_option maxRecDepth 100000 in
theorem maquettelaw15_Some.calls (k : Nat) (A0 : Option Addr) (c0 : Nat) (l0 : List Int) (a1 : Int) (r : List (S41)) (w : World) (hr0 : Kd.C (Kd.int .u16) w A0 l0.length l0) (hc0 : l0.length ≤ c0) (h : maquettelaw15_Some.f k l0 a1 = some r) :
  Calls Try.prog 9 #[.slice A0 l0.length c0, .int .i64 a1] w fun e w' => ∃ v0_ : Value, e = .returned (v0_) ∧ Kd.R k41 41 w' w.heap.size (fun _ => True) v0_ r ∧ Below w.heap.size w w' := by
 have hu41 := Try.underlying41; have HR0 := A_ hr0; have HC0 := A_ hc0; clear hr0 hc0; have HB := A_ (Below.refl w.heap.size w); unfold maquettelaw15_Some.f at h; have H := h; clear h; by_cases c3 : 0 ≤ a1
 ·rw [if_pos c3] at H
  have c3b0 := eq_true c3; have c3b1 := decide_eq_true c3; clear c3; by_cases c4 : (a1 : Int).toNat ≤ 8796093022208
  ·rw [if_pos c4] at H
   have c4b0 := eq_true c4; have c4b1 := decide_eq_true c4; clear c4; obtain ⟨y198, hy198⟩ : ∃ y_ : List (S41), y_ = (List.replicate (a1 : Int).toNat z41) := ⟨_, rfl⟩; (first | rw [← hy198] at H | (have H2_ := (Option.bind_some _ _).symm.trans H; clear H; have H := H2_; clear H2_; (try rw [← hy198] at H))); have Ny198 := A_ hy198; clear hy198; have H' := A_ H; clear H; go_enter Try.func9, Try.ntmps9; go_wp2_with (first | ((with_reducible refine gate_dst (N := 8) rfl ?_); refine Kd.R_make k41 _ 41 rfl (N := 8) rfl 38 _ _ rfl a1 rfl rfl Try.underlying38 (.agg #[(.bool false), (.int .i64 0), (.int .i64 0), (.int .u8 0)]) 32 info41 rfl (by decide) (by omega) z41 (ok := fun _ => True) (okp := fun _ => True) (k41_mkM _ _ _ z41 ) (fun _ hk => hk) trivial (odt) (Nat.le_trans (Nat.mul_le_mul_right _ (odt : a1.toNat ≤ 8796093022208)) (by omega)) (Below.refl _ _) (Nat.le_refl _) ?_; intro v199 w5 ho6 hb hg_ hnew_; clear hg_ hnew_; (first | rw [← Ny198.out] at ho6 | (simp only [Int.reduceToNat] at ho6; rw [← Ny198.out] at ho6)); have HO200 := A_ (Kd.R_lower ho6 (below_size bel)); replace HB := bst hb; clear hb ho6; obtain ⟨Ao7, co7, eo7⟩ := Kd.R_slice HO200.out; subst eo7)); go_loopg [11] k (fun kq v11 w' => ∃ (x5_1 : List (S41)) (x11_1 : Int), v11 = .int .i64 x11_1 ∧ Aside0 (maquettelaw15_Some.l0 kq l0 x5_1 (y198.length : Int) x11_1 = some r) ∧ Aside0 (kq ≤ k) ∧ Aside0 (Kd.R k41 41 w' w.heap.size (fun _ => True) (.slice Ao7 y198.length co7) x5_1) ∧ Aside0 (Below w.heap.size w w'))
   case atStart => exact ⟨(y198), (0), eqs, H', ⟨Nat.le_refl _⟩, ⟨fR HO200⟩, ⟨bel⟩⟩
   case round =>
    clear H'; (try clear p2); (try clear c3); (try clear c3b0); (try clear c3b1); (try clear c4); (try clear c4b0); (try clear c4b1); obtain ⟨x5_1, x11_1, rfl, HA, HK1, HO_5, HB⟩ := hrel; have hl5_1 := (Kd.R_reads' HO_5.out).1; rw [hl5_1] at HO_5; (try simp only [hl5_1])
    cases gk with
    | zero => exact absurd HA.out (by simp [maquettelaw15_Some.l0])
    | succ k1 =>
     have H := HA.out; clear HA; simp only [maquettelaw15_Some.l0] at H; by_cases c8 : x11_1 < (y198.length : Int)
     ·rw [if_pos c8] at H
      have c8b0 := decide_eq_true c8; (try rw [hl5_1] at c8b0); clear c8; by_cases c9 : x11_1 < (l0.length : Int)
      ·rw [if_pos c9] at H
       have c9b0 := decide_eq_true c9; clear c9; by_cases c10 : 0 ≤ x11_1
       ·rw [if_pos c10] at H
        have c10b0 := decide_eq_true c10; clear c10; by_cases c11 : (Int.tmod (rd l0 x11_1) 4) > 0
        ·rw [if_pos c11] at H
         have c11b0 : decide (0 < (Int.tmod (rd l0 x11_1) 4)) = true := decide_eq_true c11; clear c11; by_cases c12 : x11_1 < (x5_1.length : Int)
         ·rw [if_pos c12] at H
          have c12b0 := decide_eq_true c12; clear c12; obtain ⟨y205, hy205⟩ : ∃ y_ : List (S41), y_ = (x5_1.set (x11_1 : Int).toNat (⟨true, wrap64 (100 + (wrap64 (Int.tdiv (wrap64 (Int.tmod (rd l0 x11_1) 4)) 3))), wrap64 (Int.tmod (IntKind.u16.wrap (Int.tdiv (rd l0 x11_1) 64)) 16), (Int.tmod (IntKind.u16.wrap (Int.tdiv (rd l0 x11_1) 4)) 16) % 256⟩ : S41)) := ⟨_, rfl⟩; (first | rw [← hy205] at H | (have H2_ := (Option.bind_some _ _).symm.trans H; clear H; have H := H2_; clear H2_; (try rw [← hy205] at H))); have Ny205 := A_ hy205; clear hy205; have H' := A_ H; clear H; have p201 : 0 ≤ (x11_1 : Int) := odt; have q201 : x11_1 < (l0.length : Int) := odt; obtain ⟨ad201, e201, hx201_0⟩ := Kd.at_int HR0.out x11_1 p201 q201; cases e201; replace hx201_0 := hbc HB hx201_0; replace p201 := eq_true p201; replace q201 := eq_true q201; (try go_wp2); replace HO_5 := A_ (Kd.R_drew HO_5.out); replace HB := A_ (below_drew1 HB.out); have p202 : 0 ≤ (x11_1 : Int) := odt; have q202 : x11_1 < (l0.length : Int) := odt; obtain ⟨ad202, e202, hx202_0⟩ := Kd.at_int HR0.out x11_1 p202 q202; have hw202_0 := hx202_0; obtain rfl : ad201 = ad202 := (by injection e202); replace hx202_0 := hbc HB hx202_0; replace p202 := eq_true p202; replace q202 := eq_true q202; have p203 : 0 ≤ (x11_1 : Int) := odt; have q203 : x11_1 < (l0.length : Int) := odt; obtain ⟨ad203, e203, hx203_0⟩ := Kd.at_int HR0.out x11_1 p203 q203; have hw203_0 := hx203_0; obtain rfl : ad201 = ad203 := (by injection e203); replace hx203_0 := hbc HB hx203_0; replace p203 := eq_true p203; replace q203 := eq_true q203; have p204 : 0 ≤ (x11_1 : Int) := odt; have q204 : x11_1 < (l0.length : Int) := odt; obtain ⟨ad204, e204, hx204_0⟩ := Kd.at_int HR0.out x11_1 p204 q204; have hw204_0 := hx204_0; obtain rfl : ad201 = ad204 := (by injection e204); replace hx204_0 := hbc HB hx204_0; replace p204 := eq_true p204; replace q204 := eq_true q204; have p13 : 0 ≤ (x11_1 : Int) := odt; have q13 : (x11_1 : Int) < ((x5_1.length : Int) : Int) := odt; obtain ⟨go13, co13, eo13, gb13, gl13, cl13, HG13⟩ := Kd.R_form HO_5.out (by omega); (first | cases eo13 | (injection eo13 with ea_ en_ ec_; (first | subst ea_ | (injection ea_ with ea_; subst ea_)); subst ec_; clear en_)); have GB13 := A_ gb13; have GG13 := A_ HG13; clear gb13 gl13 HG13; obtain ⟨ce13, hcl13, hM13, hcc13, hfr13⟩ := Kd.R_elem HO_5.out z41 (x11_1 : Int) p13 q13; obtain rfl := k41_openM hM13; have hx13_0 : World.cell? _ ⟨go13, (x11_1 : Int).toNat * 4, none⟩ = some (.bool ((rd_T41 x5_1 x11_1).f0)) := hcc13 0 _ rfl; have hx13_1 : World.cell? _ ⟨go13, (x11_1 : Int).toNat * 4 + 1, none⟩ = some (.int .i64 ((rd_T41 x5_1 x11_1).f1)) := hcc13 1 _ rfl; have hx13_2 : World.cell? _ ⟨go13, (x11_1 : Int).toNat * 4 + 2, none⟩ = some (.int .i64 ((rd_T41 x5_1 x11_1).f2)) := hcc13 2 _ rfl; have hx13_3 : World.cell? _ ⟨go13, (x11_1 : Int).toNat * 4 + 3, none⟩ = some (.int .u8 ((rd_T41 x5_1 x11_1).f3)) := hcc13 3 _ rfl; have hf13_0 : World.frozen? _ ⟨go13, (x11_1 : Int).toNat * 4, none⟩ = false := hfr13 0; have hf13_1 : World.frozen? _ ⟨go13, (x11_1 : Int).toNat * 4 + 1, none⟩ = false := hfr13 1
          have hf13_2 : World.frozen? _ ⟨go13, (x11_1 : Int).toNat * 4 + 2, none⟩ = false := hfr13 2; have hf13_3 : World.frozen? _ ⟨go13, (x11_1 : Int).toNat * 4 + 3, none⟩ = false := hfr13 3; clear hcl13 hcc13 hfr13 hM13; replace p13 := eq_true p13; replace q13 := eq_true q13; obtain ⟨ce15, hcl15, hM15, hcc15, hfr15⟩ := Kd.R_elem HO_5.out z41 (x11_1 : Int) (odt) (by have h_ : (x11_1 : Int) < ((x5_1.length : Int) : Int) := odt; first | exact h_ | (have e_ := (Kd.R_reads' HO_5.out).1; omega) | simpa using h_); obtain rfl := k41_openM hM15; have HP15 := (Kd.R_seg HO_5.out (x11_1 : Int) (odt) (by have h_ : (x11_1 : Int) < ((x5_1.length : Int) : Int) := odt; first | exact h_ | (have e_ := (Kd.R_reads' HO_5.out).1; omega) | simpa using h_) (seg := [.bool true, .int .i64 (wrap64 (100 + (wrap64 (Int.tdiv (wrap64 (Int.tmod (rd l0 x11_1) 4)) 3)))), .int .i64 (wrap64 (Int.tmod (IntKind.u16.wrap (Int.tdiv (rd l0 x11_1) 64)) 16)), .int .u8 ((Int.tmod (IntKind.u16.wrap (Int.tdiv (rd l0 x11_1) 4)) 16) % 256)]) (j := 0) hcl15 hcc15 (show 4 ≤ 4 from by decide) (x' := (⟨true, wrap64 (100 + (wrap64 (Int.tdiv (wrap64 (Int.tmod (rd l0 x11_1) 4)) 3))), wrap64 (Int.tmod (IntKind.u16.wrap (Int.tdiv (rd l0 x11_1) 64)) 16), (Int.tmod (IntKind.u16.wrap (Int.tdiv (rd l0 x11_1) 4)) 16) % 256⟩ : S41)) (k41_mkM _ _ _ (⟨true, wrap64 (100 + (wrap64 (Int.tdiv (wrap64 (Int.tmod (rd l0 x11_1) 4)) 3))), wrap64 (Int.tmod (IntKind.u16.wrap (Int.tdiv (rd l0 x11_1) 64)) 16), (Int.tmod (IntKind.u16.wrap (Int.tdiv (rd l0 x11_1) 4)) 16) % 256⟩ : S41) ) (fun _ hk => hk)).1; rw [← Ny205.out] at HP15; have HQ15 := A_ HP15; clear hcl15 hcc15 hfr15 hM15 HP15; refine start_ (n := 27) (S := fun w' => w'.cell? (ad201.add (x11_1).toNat) = some (.int .u16 (rd l0 x11_1)) ∧ w'.cell? (ad201.add (x11_1).toNat) = some (.int .u16 (rd l0 x11_1)) ∧ w'.cell? (ad201.add (x11_1).toNat) = some (.int .u16 (rd l0 x11_1))) (ds := [26]) #[false, false, false, false, false, false, false, false, false, false, false, false, false, false, false, false, false, false, false, false, false, false, false, false, false, false, false] (by kernel_rfl) rfl rfl ⟨((HB.out.cell (World.block_lt_of_cell? w _ hw202_0)).trans hw202_0), ((HB.out.cell (World.block_lt_of_cell? w _ hw203_0)).trans hw203_0), ((HB.out.cell (World.block_lt_of_cell? w _ hw204_0)).trans hw204_0)⟩ (fun hHeld => ?_); refine with_tabW maquettelaw15_Some.tab6 maquettelaw15_Some.bits6 (fun HT_ HW_ => ?_); generalize wr.drew = w14 at HO_5 HB GG13 HQ15 hf13_0 hf13_1 hf13_2 hf13_3 hx13_0 hx13_1 hx13_2 hx13_3 hx202_0 hx203_0 hx204_0 hHeld ⊢; refine pu HT_ 0 (some 26) (mk 27 1) ?_; refine pu HT_ 1 (some 27) (mk 27 3) ?_; refine pu HT_ 2 (some 28) (mk 27 7) ?_; refine pu HT_ 3 (some 29) (mk 27 15) ?_; refine pu HT_ 4 (some 30) (mk 27 31) ?_; refine pu HT_ 10 (some 36) (mk 27 1055) ?_; refine pu HT_ 11 (some 37) (mk 27 3103) ?_; refine pu HT_ 12 (some 38) (mk 27 7199) ?_; refine pu HT_ 17 (some 43) (mk 27 138271) ?_; refine pu HT_ 18 (some 44) (mk 27 400415) ?_; refine pu HT_ 19 (some 45) (mk 27 924703) ?_
          refine tk HT_ HW_ 5 (some 31) (mk 27 924735) hHeld ?_; refine pu HT_ 6 (some 32) (mk 27 924799) ?_; refine pu HT_ 7 (some 33) (mk 27 924927) ?_; refine pu HT_ 8 (some 34) (mk 27 925183) ?_; refine pu HT_ 9 (some 35) (mk 27 925695) ?_; refine tk HT_ HW_ 13 (some 39) (mk 27 933887) hHeld ?_; refine pu HT_ 14 (some 40) (mk 27 950271) ?_; refine pu HT_ 15 (some 41) (mk 27 983039) ?_; refine pu HT_ 16 (some 42) (mk 27 1048575) ?_; refine tk HT_ HW_ 20 (some 46) (mk 27 2097151) hHeld ?_; refine pu HT_ 21 (some 47) (mk 27 4194303) ?_; refine pu HT_ 22 (some 48) (mk 27 8388607) ?_; refine pu HT_ 23 (some 49) (mk 27 16777215) ?_; refine pu HT_ 24 (some 50) (mk 27 33554431) ?_; refine pu HT_ 25 (some 51) (mk 27 67108863) ?_; (refine la HT_ 26 (none) (mk 27 134217727) fun K hK => ?_); refine skip_ (w1 := ?_) (by rfl) rfl ?_ ?_; rotate_left
          ·go_simp
           rfl
          refine hK.out _ _ ?_; clear hK K; refine done_ (done_of HT_.out (by kernel_rfl)) ?_; (try go_wp2); (try simp only [← hl5_1]); go_roundg k1
          case measure => have := HK1.out; omega
          case rel => exact ⟨(y205), (wrap64 (x11_1 + 1)), eqs, H', ⟨by have := HK1.out; omega⟩, ⟨by (try simp only [hl5_1]); exact fR HQ15⟩, ⟨bel⟩⟩
         ·rw [if_neg c12] at H
          exact absurd H (by simp)
        ·rw [if_neg c11] at H
         have c11b0 : decide (0 < (Int.tmod (rd l0 x11_1) 4)) = false := decide_eq_false c11; clear c11; have H' := A_ H; clear H; have p201 : 0 ≤ (x11_1 : Int) := odt; have q201 : x11_1 < (l0.length : Int) := odt; obtain ⟨ad201, e201, hx201_0⟩ := Kd.at_int HR0.out x11_1 p201 q201; cases e201; replace hx201_0 := hbc HB hx201_0; replace p201 := eq_true p201; replace q201 := eq_true q201; go_wp2; (try simp only [← hl5_1]); go_roundg k1
         case measure => have := HK1.out; omega
         case rel => exact ⟨(x5_1), (wrap64 (x11_1 + 1)), eqs, H', ⟨by have := HK1.out; omega⟩, ⟨by (try simp only [hl5_1]); exact fR HO_5⟩, ⟨bel⟩⟩
       ·rw [if_neg c10] at H
        exact absurd H (by simp)
      ·rw [if_neg c9] at H
       have c9b0 := decide_eq_false c9; clear c9; have H' := A_ H; clear H; go_wp2; (try simp only [← hl5_1]); go_roundg k1
       case measure => have := HK1.out; omega
       case rel => exact ⟨(x5_1), (wrap64 (x11_1 + 1)), eqs, H', ⟨by have := HK1.out; omega⟩, ⟨by (try simp only [hl5_1]); exact fR HO_5⟩, ⟨bel⟩⟩
     ·rw [if_neg c8] at H
      have c8b0 := decide_eq_false c8; (try rw [hl5_1] at c8b0); clear c8; obtain rfl := Option.some.inj H; go_wp2; go_ret; exact ⟨_, eqd, by (with_reducible repeat (first | apply Kd.R_alloc | apply Kd.R_drewN | apply Kd.R_drew)); exact HO_5.out, bel⟩
  ·rw [if_neg c4] at H
   exact absurd H (by simp)
 ·rw [if_neg c3] at H
  exact absurd H (by simp)
def lift_Up.l0 : Nat → List (S61) → List (S61) → List Int → Int → Int → Option ((List (S61)))
 | 0, _, _, _, _, _ => none
 | k + 1, x1, x5, x9, x10, x11 => if x11 < x10 then (if 0 ≤ x11 then (if x11 < (x9.length : Int) then (if (rd x9 x11) ≥ 0 then (if (rd x9 x11) < (x1.length : Int) then (if 0 ≤ (rd x9 x11) then (if ([] : List Int).length + ((rd_T61 x1 (rd x9 x11)).f2).length < 17592186044416 then (if x5.length < 4398046511104 then (lift_Up.l0 k x1 (x5 ++ [(⟨(rd_T61 x1 (rd x9 x11)).f0, (rd_T61 x1 (rd x9 x11)).f1, (([] : List Int) ++ ((rd_T61 x1 (rd x9 x11)).f2))⟩ : S61)]) x9 x10 (wrap64 (x11 + 1))) else (none)) else (none)) else (none)) else (if x5.length < 4398046511104 then (lift_Up.l0 k x1 (x5 ++ [(⟨false, false, ([] : List Int)⟩ : S61)]) x9 x10 (wrap64 (x11 + 1))) else (none))) else (if x5.length < 4398046511104 then (lift_Up.l0 k x1 (x5 ++ [(⟨false, false, ([] : List Int)⟩ : S61)]) x9 x10 (wrap64 (x11 + 1))) else (none))) else (none)) else (none)) else (some x5)
def lift_Up.f (k : Nat) (l0 : List Int) (l1 : List (S61)) : Option ((List (S61))) := lift_Up.l0 k l1 ([] : List (S61)) l0 (l0.length : Int) 0
theorem lift_Up.mono_l : ∀ k, (∀ y0 y1 y2 y3 y4, LeO (lift_Up.l0 k y0 y1 y2 y3 y4) (lift_Up.l0 (k + 1) y0 y1 y2 y3 y4))
 | 0 => fun _ _ _ _ _ r h => by simp [lift_Up.l0] at h
 | k + 1 => by
  have ih0 := lift_Up.mono_l k
  ·intro y0 y1 y2 y3 y4
   unfold lift_Up.l0; repeat' first
   | (with_reducible exact ih0 _ _ _ _ _)
   | (with_reducible exact LeO.refl _)
   | (with_reducible exact LeO.none _)
   | (with_reducible refine LeO.ite ?_ ?_)
   | (with_reducible refine LeO.bind ?_ (fun _ => ?_))
   | exact ih0 _ _ _ _ _
   | exact LeO.none _
   | refine LeO.ite ?_ ?_
   | refine LeO.bind ?_ (fun _ => ?_)
theorem lift_Up.mono : ∀ a0 a1 k, LeO (lift_Up.f k a0 a1) (lift_Up.f (k + 1) a0 a1) := by
 intro a0 a1 k; have ih0 := lift_Up.mono_l k; unfold lift_Up.f
 repeat' first
   | (with_reducible exact ih0 _ _ _ _ _)
   | (with_reducible exact LeO.refl _)
   | (with_reducible exact LeO.none _)
   | (with_reducible refine LeO.ite ?_ ?_)
   | (with_reducible refine LeO.bind ?_ (fun _ => ?_))
   | exact ih0 _ _ _ _ _
   | exact LeO.none _
   | refine LeO.ite ?_ ?_
   | refine LeO.bind ?_ (fun _ => ?_)
set_option maxHeartbeats 8000000 in
set_option maxRecDepth 100000 in
theorem lift_Up.calls (k : Nat) (A0 : Option Addr) (c0 : Nat) (l0 : List Int) (A1 : Option Addr) (c1 : Nat) (l1 : List (S61)) (r : List (S61)) (w : World) (hr0 : Kd.C (Kd.int .i64) w A0 l0.length l0) (hc0 : l0.length ≤ c0) (hr1 : Kd.C k61 w A1 l1.length l1) (hc1 : l1.length ≤ c1) (h : lift_Up.f k l0 l1 = some r) :
  Calls Try.prog 30 #[.slice A0 l0.length c0, .slice A1 l1.length c1] w fun e w' => ∃ v0_ : Value, e = .returned (v0_) ∧ Kd.S k61 61 w' w.heap.size (fun _ => True) v0_ r ∧ Below w.heap.size w w' := by
 have hu61 := Try.underlying61; have HR0 := A_ hr0; have HC0 := A_ hc0; clear hr0 hc0; have HR1 := A_ hr1; have HC1 := A_ hc1; clear hr1 hc1; have HB := A_ (Below.refl w.heap.size w); unfold lift_Up.f at h; have H := h; clear h; have H' := A_ H; clear H; go_enter Try.func30, Try.ntmps30; go_wp2; go_loopg [5, 11] k (fun kq v5 v11 w' => ∃ (x5_1 : List (S61)) (x11_1 : Int), v11 = .int .i64 x11_1 ∧ Aside0 (lift_Up.l0 kq l1 x5_1 l0 (l0.length : Int) x11_1 = some r) ∧ Aside0 (kq ≤ k) ∧ Aside0 (Kd.S k61 61 w' w.heap.size (fun _ => True) v5 x5_1) ∧ Aside0 (Below w.heap.size w w'))
 case atStart => exact ⟨(([] : List (S61))), (0), eqs, H', ⟨Nat.le_refl _⟩, ⟨by first | exact Kd.S_nil _ _ _ _ _ | exact Kd.N_nil _ _ _ _ _ | exact Kd.V_nil _ _ _ _ _ | exact Kd.Q_nil _ _ _ _ _ | exact Kd.R_nil _ _ _ _ _⟩, ⟨bel⟩⟩
 case round =>
  clear H'; (try clear c1); (try clear p2); obtain ⟨x5_1, x11_1, rfl, HA, HK1, HO_5, HB⟩ := hrel
  cases gk with
  | zero => exact absurd HA.out (by simp [lift_Up.l0])
  | succ k1 =>
   have H := HA.out; clear HA; simp only [lift_Up.l0] at H; by_cases c3 : x11_1 < (l0.length : Int)
   ·rw [if_pos c3] at H
    have c3b0 := decide_eq_true c3; clear c3; by_cases c4 : 0 ≤ x11_1
    ·rw [if_pos c4] at H
     have c4b0 := decide_eq_true c4; clear c4; by_cases c5 : x11_1 < (l0.length : Int)
     ·rw [if_pos c5] at H
      have c5b0 := decide_eq_true c5; clear c5; by_cases c6 : (rd l0 x11_1) ≥ 0
      ·rw [if_pos c6] at H
       have c6b0 : decide (0 ≤ (rd l0 x11_1)) = true := decide_eq_true c6; clear c6; by_cases c7 : (rd l0 x11_1) < (l1.length : Int)
       ·rw [if_pos c7] at H
        have c7b0 := decide_eq_true c7; clear c7; by_cases c8 : 0 ≤ (rd l0 x11_1)
        ·rw [if_pos c8] at H
         have c8b0 := decide_eq_true c8; clear c8; by_cases c9 : ([] : List Int).length + ((rd_T61 l1 (rd l0 x11_1)).f2).length < 17592186044416
         ·rw [if_pos c9] at H
          have LMc9 := A_ c9; clear c9; obtain ⟨y301, hy301⟩ : ∃ y_ : List Int, y_ = (([] : List Int) ++ ((rd_T61 l1 (rd l0 x11_1)).f2)) := ⟨_, rfl⟩; (first | rw [← hy301] at H | (have H2_ := (Option.bind_some _ _).symm.trans H; clear H; have H := H2_; clear H2_; (try rw [← hy301] at H))); have Ny301 := A_ hy301; clear hy301; by_cases c10 : x5_1.length < 4398046511104
          ·rw [if_pos c10] at H
           have LMc10 := A_ c10; clear c10; obtain ⟨y304, hy304⟩ : ∃ y_ : List (S61), y_ = (x5_1 ++ [(⟨(rd_T61 l1 (rd l0 x11_1)).f0, (rd_T61 l1 (rd l0 x11_1)).f1, y301⟩ : S61)]) := ⟨_, rfl⟩; (first | rw [← hy304] at H | (have H2_ := (Option.bind_some _ _).symm.trans H; clear H; have H := H2_; clear H2_; (try rw [← hy304] at H))); have Ny304 := A_ hy304; clear hy304; have H' := A_ H; clear H; have p298 : 0 ≤ (x11_1 : Int) := odt; have q298 : x11_1 < (l0.length : Int) := odt; obtain ⟨ad298, e298, hx298_0⟩ := Kd.at_int HR0.out x11_1 p298 q298; cases e298; replace hx298_0 := hbc HB hx298_0; replace p298 := eq_true p298; replace q298 := eq_true q298
           go_wp2_with (first | ((with_reducible refine gate_dst (N := 8) rfl ?_); (try (refine gate_guard (by rfl) ?_; dsimp only)); refine bx 8 (cs := #[.bool false, .bool false, .slice none 0 0]) (t := 61) (h := ?_); intro gb299 hg w11 hbox hb; have BK299 := A_ hbox; have GW299 : Aside0 (w.heap.size ≤ gb299) := bge hg; replace HO_5 := A_ (Kd.S_below (Kd.S_elderB (kS HO_5) gb299 (Nat.le_of_eq hg.symm)) hb); replace HB := bst hb; clear hb hbox hg; have p300 : 0 ≤ ((rd l0 x11_1) : Int) := odt; have q300 : (rd l0 x11_1) < (l1.length : Int) := odt; obtain ⟨ad300, A300_2, c300_2, e300, hx300_0, hx300_1, hx300_2, hl300_2, hi300_2⟩ := at_T61 HR1.out (rd l0 x11_1) p300 q300; cases e300; replace hx300_0 := hbc HB hx300_0; replace hx300_1 := hbc HB hx300_1; replace hx300_2 := hbc HB hx300_2; have HR300_2 := A_ hi300_2; have HC300_2 := A_ hl300_2; clear hi300_2 hl300_2; replace p300 := eq_true p300; replace q300 := eq_true q300; have hcz12 := bc3 BK299) | ((with_reducible refine gate_builtin (b := .append) (xs := #[.const (.slice none 0 0), .tmp 28]) rfl ?_); (try (refine gate_guard (by rfl) ?_; dsimp only)); at_builtin; refine Kd.R_append_rows (Kd.int .i64) (w0 := w) w.heap.size rfl (.const (.slice none 0 0)) (.tmp 28) 29 3 (.int .i64 0) 8 rfl Try.underlying29 info3 rfl (by decide) (by omega) (.slice none 0 0) ([] : List Int) ((rd_T61 l1 (rd l0 x11_1)).f2) _ _ _ (fun _ => True) (fun _ => False) rfl rfl ?aO ?aR (fun _ _ h => h) (fun _ h => h.elim) ?aF ?aB ?aS ?aL ?_; (case aR => exact Kd.C_below HR300_2.out bel); (case aB => exact bel); (case aF => exact (fun _ _ => trivial)); (case aO => exact ((Kd.R_nil _ _ _ _ (fun _ => True)))); (case aS => exact (below_size bel)); (case aL => have := LMc9.out; omega); intro v302 w13 ho hb hg hat; rw [← Ny301.out] at ho; have HO303 := A_ ho; replace HO_5 := A_ (Kd.S_after (Kd.S_apart_nil (by (with_reducible repeat (first | apply Kd.S_alloc | apply Kd.S_drewN | apply Kd.S_drew)); exact (Kd.S_mono (Kd.S_far (p := ⟨gb299, 2, none⟩) (Kd.S_far (p := ⟨gb299, 1, none⟩) (Kd.S_far (p := ⟨gb299, 0, none⟩) (Kd.S_mono HO_5.out (fun k_ hk => (⟨hk, hk.2⟩ : _ ∧ k_ ≠ gb299))) (fun _ hk => hk.2) (.bool ((rd_T61 l1 (rd l0 x11_1)).f0))) (fun _ hk => hk.2) (.bool ((rd_T61 l1 (rd l0 x11_1)).f1))) (fun _ hk => hk.2) (.slice A300_2 ((rd_T61 l1 (rd l0 x11_1)).f2).length c300_2)) (fun _ h_ => h_.1)))) hg hat); replace BK299 := A_ (blk_grown (g := gb299) (o := .cells #[.bool ((rd_T61 l1 (rd l0 x11_1)).f0), .bool ((rd_T61 l1 (rd l0 x11_1)).f1), .slice A300_2 ((rd_T61 l1 (rd l0 x11_1)).f2).length c300_2] 61 (0, 0)) (bkp BK299) hg (by simp [Value.ownBlock])); replace HB := A_ (hb); clear ho hb hg hat; obtain ⟨Ao14, co14, eo14⟩ := Kd.R_slice HO303.out; subst eo14; have hcz15 := bc3 BK299) | ((with_reducible refine gate_store (t := 29) (p := 30) rfl ?_); refine store_event (t := 29) (p := 30) (v := ?vo_w16) (w1 := (w13.setCell ⟨gb299, 2, none⟩ (.slice Ao14 y301.length co14))) ?hg ?ho ?hn ?hr ?_; (case ho => rfl); (case hg => rfl); (case hn => rfl); (case hr => first | (go_simp; done) | (go_simp; rfl)); intro w16 hw; replace HO_5 : Aside0 (Kd.S k61 61 w16 w.heap.size (fun k_ => some k_ ≠ (.slice Ao14 y301.length co14 : Value).ownBlock ∧ k_ ≠ gb299) u5 x5_1) := ⟨(by rw [hw]; exact (by (with_reducible repeat (first | apply Kd.S_alloc | apply Kd.S_drewN | apply Kd.S_drew)); exact Kd.S_mono (Kd.S_far (p := ⟨gb299, 2, none⟩) (Kd.S_mono HO_5.out (fun k_ hk => (⟨hk, hk.1.2⟩ : _ ∧ k_ ≠ gb299))) (fun _ hk => hk.2) (.slice Ao14 y301.length co14)) (fun _ hk => ⟨hk.1.2, hk.1.1.2⟩)))⟩; replace HO303 : Aside0 (Kd.R (Kd.int .i64) 3 w16 w.heap.size (fun _ => True) (.slice Ao14 y301.length co14) y301) := ⟨(by rw [hw]; exact (by (with_reducible repeat (first | apply Kd.R_alloc | apply Kd.R_drewN | apply Kd.R_drew)); exact Kd.R_mono (Kd.R_far (p := ⟨gb299, 2, none⟩) (Kd.R_types HO303.out BK299.out (by decide)) (fun _ hk => hk.2) (.slice Ao14 y301.length co14)) (fun _ hk => trivial)))⟩; replace BK299 : Aside0 (w16.heap[gb299]? = some (.cells #[.bool ((rd_T61 l1 (rd l0 x11_1)).f0), .bool ((rd_T61 l1 (rd l0 x11_1)).f1), .slice Ao14 y301.length co14] 61 (0, 0))) := ⟨(by rw [hw]; exact (bkp BK299))⟩; replace HB : Aside0 (Below w.heap.size w w16) := ⟨(by rw [hw]; exact bel)⟩; clear hw; have hcz17 := bc3 BK299) | ((with_reducible refine gate_builtin (b := .append) (xs := #[.tmp 31, .tmp 33]) rfl ?_); (try (refine gate_guard (by rfl) ?_; dsimp only)); at_builtin; refine Kd.S_append k61 (w0 := w) w.heap.size rfl (.tmp 31) (.tmp 33) 58 61 (.agg #[(.bool false), (.bool false), (.slice none 0 0)]) 32 rfl Try.underlying58 info61 rfl (by decide) (by omega) u5 x5_1 (⟨(rd_T61 l1 (rd l0 x11_1)).f0, (rd_T61 l1 (rd l0 x11_1)).f1, y301⟩ : S61) [.bool ((rd_T61 l1 (rd l0 x11_1)).f0), .bool ((rd_T61 l1 (rd l0 x11_1)).f1), .slice Ao14 y301.length co14] (fun k_ => k_ ≠ gb299) (fun k_ => some k_ = (.slice Ao14 y301.length co14 : Value).ownBlock) rfl rfl ?aP (fun k_ hk_ => ((Kd.R_mono (ok' := fun k_ => ((fun k_ => k_ ≠ gb299)) k_ ∧ some k_ ≠ (u5 : Value).ownBlock) (Kd.R_types (Kd.R_apart' (HO303.out) (Kd.S_typed HO_5.out) (by decide)) BK299.out (by decide)) (fun k_ hk => ⟨hk.2, hk.1.2⟩))).1 k_ hk_.symm) ?aF ?aO ?aB ?aS ?aL ?_; (case aP => exact k61_mkM _ _ _ (⟨(rd_T61 l1 (rd l0 x11_1)).f0, (rd_T61 l1 (rd l0 x11_1)).f1, y301⟩ : S61) (Kd.R_mono (Kd.R_tight rfl (Kd.R_mono (ok' := fun k_ => ((fun k_ => k_ ≠ gb299)) k_ ∧ some k_ ≠ (u5 : Value).ownBlock) (Kd.R_types (Kd.R_apart' (HO303.out) (Kd.S_typed HO_5.out) (by decide)) BK299.out (by decide)) (fun k_ hk => ⟨hk.2, hk.1.2⟩))) (fun _ h_ => h_))); (case aB => exact bel); (case aF => exact (fun k_ hk => Kd.freshB (g := gb299) (o := .cells #[.bool ((rd_T61 l1 (rd l0 x11_1)).f0), .bool ((rd_T61 l1 (rd l0 x11_1)).f1), .slice Ao14 y301.length co14] 61 (0, 0)) (bkq BK299) k_ hk)); (case aO => exact (by exact Kd.S_mono (gS HO_5) (fun k_ hk => ⟨hk.2, fun e_ => hk.1 e_⟩))); (case aS => exact (below_size bel)); (case aL => have := LMc10.out; omega); intro v305 w18 ho hb hg hat; rw [← Ny304.out] at ho; have HO306 := A_ ho; replace BK299 := A_ (blk_grown (g := gb299) (o := .cells #[.bool ((rd_T61 l1 (rd l0 x11_1)).f0), .bool ((rd_T61 l1 (rd l0 x11_1)).f1), .slice Ao14 y301.length co14] 61 (0, 0)) (bkq BK299) hg (Kd.S_away HO_5.out (fun _ hk => hk.2))); replace HB := A_ (hb); clear HO_5 HO303; clear ho hb hg hat))
           go_roundg k1
           case measure => have := HK1.out; omega
           case rel => exact ⟨(y304), (wrap64 (x11_1 + 1)), eqs, H', ⟨by have := HK1.out; omega⟩, ⟨Kd.S_mono (gS HO306) (fun _ hk => trivial)⟩, ⟨bel⟩⟩
          ·rw [if_neg c10] at H
           exact absurd H (by simp)
         ·rw [if_neg c9] at H
          exact absurd H (by simp)
        ·rw [if_neg c8] at H
         exact absurd H (by simp)
       ·rw [if_neg c7] at H
        have c7b0 := decide_eq_false c7; clear c7; by_cases c19 : x5_1.length < 4398046511104
        ·rw [if_pos c19] at H
         have LMc19 := A_ c19; clear c19; obtain ⟨y307, hy307⟩ : ∃ y_ : List (S61), y_ = (x5_1 ++ [(⟨false, false, ([] : List Int)⟩ : S61)]) := ⟨_, rfl⟩; (first | rw [← hy307] at H | (have H2_ := (Option.bind_some _ _).symm.trans H; clear H; have H := H2_; clear H2_; (try rw [← hy307] at H))); have Ny307 := A_ hy307; clear hy307; have H' := A_ H; clear H; have p298 : 0 ≤ (x11_1 : Int) := odt; have q298 : x11_1 < (l0.length : Int) := odt; obtain ⟨ad298, e298, hx298_0⟩ := Kd.at_int HR0.out x11_1 p298 q298; cases e298; replace hx298_0 := hbc HB hx298_0; replace p298 := eq_true p298; replace q298 := eq_true q298; go_wp2_with (first | ((with_reducible refine gate_dst (N := 8) rfl ?_); (try (refine gate_guard (by rfl) ?_; dsimp only)); refine bx 8 (cs := #[.bool false, .bool false, .slice none 0 0]) (t := 61) (h := ?_); intro gb299 hg w20 hbox hb; have BK299 := A_ hbox; have GW299 : Aside0 (w.heap.size ≤ gb299) := bge hg; replace HO_5 := A_ (Kd.S_below (Kd.S_elderB (kS HO_5) gb299 (Nat.le_of_eq hg.symm)) hb); replace HB := bst hb; clear hb hbox hg; have hcz21 := bc3 BK299) | ((with_reducible refine gate_builtin (b := .append) (xs := #[.tmp 31, .tmp 33]) rfl ?_); (try (refine gate_guard (by rfl) ?_; dsimp only)); at_builtin; refine Kd.S_append k61 (w0 := w) w.heap.size rfl (.tmp 31) (.tmp 33) 58 61 (.agg #[(.bool false), (.bool false), (.slice none 0 0)]) 32 rfl Try.underlying58 info61 rfl (by decide) (by omega) u5 x5_1 (⟨false, false, ([] : List Int)⟩ : S61) [.bool false, .bool false, .slice none 0 0] (fun k_ => k_ ≠ gb299) (fun _ => False) rfl rfl ?aP (fun k_ hk_ => hk_.elim) ?aF ?aO ?aB ?aS ?aL ?_; (case aP => exact k61_mkM _ _ _ (⟨false, false, ([] : List Int)⟩ : S61) (Kd.R_nil _ _ _ _ _)); (case aB => exact bel); (case aF => exact (fun k_ hk => Kd.freshB (bkq BK299) k_ hk)); (case aO => exact (by exact Kd.S_mono (gS HO_5) (fun k_ hk => ⟨hk.2, fun e_ => e_⟩))); (case aS => exact (below_size bel)); (case aL => have := LMc19.out; omega); intro v308 w22 ho hb hg hat; rw [← Ny307.out] at ho; have HO309 := A_ ho; replace BK299 := A_ (blk_grown (bkq BK299) hg (Kd.S_away HO_5.out (fun _ hk => hk.2))); replace HB := A_ (hb); clear HO_5; clear ho hb hg hat)); go_roundg k1
         case measure => have := HK1.out; omega
         case rel => exact ⟨(y307), (wrap64 (x11_1 + 1)), eqs, H', ⟨by have := HK1.out; omega⟩, ⟨Kd.S_mono (gS HO309) (fun _ hk => trivial)⟩, ⟨bel⟩⟩
        ·rw [if_neg c19] at H
         exact absurd H (by simp)
      ·rw [if_neg c6] at H
       have c6b0 : decide (0 ≤ (rd l0 x11_1)) = false := decide_eq_false c6; clear c6; by_cases c23 : x5_1.length < 4398046511104
       ·rw [if_pos c23] at H
        have LMc23 := A_ c23; clear c23; obtain ⟨y310, hy310⟩ : ∃ y_ : List (S61), y_ = (x5_1 ++ [(⟨false, false, ([] : List Int)⟩ : S61)]) := ⟨_, rfl⟩; (first | rw [← hy310] at H | (have H2_ := (Option.bind_some _ _).symm.trans H; clear H; have H := H2_; clear H2_; (try rw [← hy310] at H))); have Ny310 := A_ hy310; clear hy310; have H' := A_ H; clear H; have p298 : 0 ≤ (x11_1 : Int) := odt; have q298 : x11_1 < (l0.length : Int) := odt; obtain ⟨ad298, e298, hx298_0⟩ := Kd.at_int HR0.out x11_1 p298 q298; cases e298; replace hx298_0 := hbc HB hx298_0; replace p298 := eq_true p298; replace q298 := eq_true q298; go_wp2_with (first | ((with_reducible refine gate_dst (N := 8) rfl ?_); (try (refine gate_guard (by rfl) ?_; dsimp only)); refine bx 8 (cs := #[.bool false, .bool false, .slice none 0 0]) (t := 61) (h := ?_); intro gb299 hg w24 hbox hb; have BK299 := A_ hbox; have GW299 : Aside0 (w.heap.size ≤ gb299) := bge hg; replace HO_5 := A_ (Kd.S_below (Kd.S_elderB (kS HO_5) gb299 (Nat.le_of_eq hg.symm)) hb); replace HB := bst hb; clear hb hbox hg; have hcz25 := bc3 BK299) | ((with_reducible refine gate_builtin (b := .append) (xs := #[.tmp 31, .tmp 33]) rfl ?_); (try (refine gate_guard (by rfl) ?_; dsimp only)); at_builtin; refine Kd.S_append k61 (w0 := w) w.heap.size rfl (.tmp 31) (.tmp 33) 58 61 (.agg #[(.bool false), (.bool false), (.slice none 0 0)]) 32 rfl Try.underlying58 info61 rfl (by decide) (by omega) u5 x5_1 (⟨false, false, ([] : List Int)⟩ : S61) [.bool false, .bool false, .slice none 0 0] (fun k_ => k_ ≠ gb299) (fun _ => False) rfl rfl ?aP (fun k_ hk_ => hk_.elim) ?aF ?aO ?aB ?aS ?aL ?_; (case aP => exact k61_mkM _ _ _ (⟨false, false, ([] : List Int)⟩ : S61) (Kd.R_nil _ _ _ _ _)); (case aB => exact bel); (case aF => exact (fun k_ hk => Kd.freshB (bkq BK299) k_ hk)); (case aO => exact (by exact Kd.S_mono (gS HO_5) (fun k_ hk => ⟨hk.2, fun e_ => e_⟩))); (case aS => exact (below_size bel)); (case aL => have := LMc23.out; omega); intro v311 w26 ho hb hg hat; rw [← Ny310.out] at ho; have HO312 := A_ ho; replace BK299 := A_ (blk_grown (bkq BK299) hg (Kd.S_away HO_5.out (fun _ hk => hk.2))); replace HB := A_ (hb); clear HO_5; clear ho hb hg hat)); go_roundg k1
        case measure => have := HK1.out; omega
        case rel => exact ⟨(y310), (wrap64 (x11_1 + 1)), eqs, H', ⟨by have := HK1.out; omega⟩, ⟨Kd.S_mono (gS HO312) (fun _ hk => trivial)⟩, ⟨bel⟩⟩
       ·rw [if_neg c23] at H
        exact absurd H (by simp)
     ·rw [if_neg c5] at H
      exact absurd H (by simp)
    ·rw [if_neg c4] at H
     exact absurd H (by simp)
   ·rw [if_neg c3] at H
    have c3b0 := decide_eq_false c3; clear c3; obtain rfl := Option.some.inj H; go_wp2; go_ret; exact ⟨_, eqd, by (with_reducible repeat (first | apply Kd.S_alloc | apply Kd.S_drewN | apply Kd.S_drew)); exact HO_5.out, bel⟩
def maquettelaw23_awake.f (k : Nat)  : Option (Bool) := (lift_Answers.f k (([true, false] : List Bool)) (([(-1), (-1)] : List Int)) (([[], (([(⟨0, 3, ([] : List (S116)), ([] : List (S116))⟩ : S51)] : List (S51)))] : List (List (S51)))) (([(⟨true, 100, 0, 0⟩ : S41), (⟨true, 100, 3, 0⟩ : S41)] : List (S41))) 5).bind fun t329 => (if (t329.length : Int) = 2 then (if 1 < (t329.length : Int) then (if (rd_T61 t329 1).f0 = true then (if ((rd_T61 t329 1).f1 = true) then (some false) else (if (((rd_T61 t329 1).f2).length : Int) = 1 then (if 0 < (((rd_T61 t329 1).f2).length : Int) then (if (rd ((rd_T61 t329 1).f2) 0) = 1 then ((lift_Up.f k (([0, 1, 1] : List Int)) t329).bind fun t340 => (some ((t340.length : Int) == 3))) else (some false)) else (none)) else (some false))) else (some false)) else (none)) else (some false))
theorem maquettelaw23_awake.mono : ∀ k, LeO (maquettelaw23_awake.f k ) (maquettelaw23_awake.f (k + 1) ) := by
 intro  k; unfold maquettelaw23_awake.f
 repeat' first
   | (with_reducible exact lift_Answers.mono _ _ _ _ _ _)
   | (with_reducible exact lift_Up.mono _ _ _)
   | (with_reducible exact LeO.refl _)
   | (with_reducible exact LeO.none _)
   | (with_reducible refine LeO.ite ?_ ?_)
   | (with_reducible refine LeO.bind ?_ (fun _ => ?_))
   | exact lift_Answers.mono _ _ _ _ _ _
   | exact lift_Up.mono _ _ _
   | exact LeO.none _
   | refine LeO.ite ?_ ?_
   | refine LeO.bind ?_ (fun _ => ?_)
set_option maxRecDepth 100000 in
theorem maquettelaw23_awake.at60 : maquettelaw23_awake.f 60 = some true := by decide +kernel
theorem maquettelaw23_awake.up60 : ∀ (n k : Nat) (r : Bool), maquettelaw23_awake.f k = some r → maquettelaw23_awake.f (k + n) = some r
 | 0, _, _, h => h
 | n + 1, k, r, h => maquettelaw23_awake.mono _ _ (maquettelaw23_awake.up60 n k r h)
theorem maquettelaw23_awake.det {k : Nat} {r : Bool} (h : maquettelaw23_awake.f k = some r) : r = true := by
 have h1 := maquettelaw23_awake.up60 60 k r h; have h2 := maquettelaw23_awake.up60 k 60 true maquettelaw23_awake.at60; rw [Nat.add_comm 60 k, h1] at h2; exact Option.some.inj h2
set_option maxHeartbeats 8000000 in
set_option maxRecDepth 100000 in
theorem maquettelaw23_awake.calls (k : Nat)  (r : Bool) (w : World) (h : maquettelaw23_awake.f k  = some r) :
  Calls Try.prog 17 #[] w fun e w' => e = .returned (.bool r) ∧ Below w.heap.size w w' := by
 have hT : r = true := maquettelaw23_awake.det h; have hu51 := Try.underlying51; have hu32 := Try.underlying32; have hu41 := Try.underlying41; have HB := A_ (Below.refl w.heap.size w); unfold maquettelaw23_awake.f at h; have H := h; clear h; obtain ⟨y313, hy313⟩ : ∃ y_ : List Bool, y_ = (([true, false] : List Bool)) := ⟨_, rfl⟩; (first | rw [← hy313] at H | (have H2_ := (Option.bind_some _ _).symm.trans H; clear H; have H := H2_; clear H2_; (try rw [← hy313] at H))); have Ny313 := A_ hy313; clear hy313; obtain ⟨y316, hy316⟩ : ∃ y_ : List Int, y_ = (([(-1), (-1)] : List Int)) := ⟨_, rfl⟩; (first | rw [← hy316] at H | (have H2_ := (Option.bind_some _ _).symm.trans H; clear H; have H := H2_; clear H2_; (try rw [← hy316] at H))); have Ny316 := A_ hy316; clear hy316; obtain ⟨y319, hy319⟩ : ∃ y_ : List (S51), y_ = (([(⟨0, 3, ([] : List (S116)), ([] : List (S116))⟩ : S51)] : List (S51))) := ⟨_, rfl⟩; (first | rw [← hy319] at H | (have H2_ := (Option.bind_some _ _).symm.trans H; clear H; have H := H2_; clear H2_; (try rw [← hy319] at H))); have Ny319 := A_ hy319; clear hy319; obtain ⟨y322, hy322⟩ : ∃ y_ : List (List (S51)), y_ = (([[], y319] : List (List (S51)))) := ⟨_, rfl⟩; (first | rw [← hy322] at H | (have H2_ := (Option.bind_some _ _).symm.trans H; clear H; have H := H2_; clear H2_; (try rw [← hy322] at H))); have Ny322 := A_ hy322; clear hy322; obtain ⟨y326, hy326⟩ : ∃ y_ : List (S41), y_ = (([(⟨true, 100, 0, 0⟩ : S41), (⟨true, 100, 3, 0⟩ : S41)] : List (S41))) := ⟨_, rfl⟩; (first | rw [← hy326] at H | (have H2_ := (Option.bind_some _ _).symm.trans H; clear H; have H := H2_; clear H2_; (try rw [← hy326] at H))); have Ny326 := A_ hy326; clear hy326; replace H := Option.bind_eq_some_iff.mp H; obtain ⟨t329, A10, H⟩ := H; have A1 := A_ A10; clear A10; by_cases c2 : (t329.length : Int) = 2
 ·rw [if_pos c2] at H
  have c2b0 : ((t329.length : Int) == 2) = true := beq_iff_eq.mpr c2; have c2b1 : ((t329.length : Int) != 2) = false := bne_eq_false_iff_eq.mpr c2; clear c2; by_cases c3 : 1 < (t329.length : Int)
  ·rw [if_pos c3] at H
   have c3b0 := decide_eq_true c3; have c3b1 : decide (1 < t329.length) = true := decide_eq_true (by omega); clear c3; obtain ⟨bq4, hbq4⟩ : ∃ b_ : Bool, b_ = ((rd_T61 t329 1).f0) := ⟨_, rfl⟩; (replace H : (if bq4 = true then (if ((rd_T61 t329 1).f1 = true) then (some false) else (if (((rd_T61 t329 1).f2).length : Int) = 1 then (if 0 < (((rd_T61 t329 1).f2).length : Int) then (if (rd ((rd_T61 t329 1).f2) 0) = 1 then ((lift_Up.f k (([0, 1, 1] : List Int)) t329).bind fun t340 => (some ((t340.length : Int) == 3))) else (some false)) else (none)) else (some false))) else (some false)) = some r := by rw [← hbq4] at H; exact H); have Nbq4 := A_ hbq4; clear hbq4; by_cases c5 : bq4 = true
   ·subst c5
    (try rw [← Nbq4.out] at A1); rw [if_pos rfl] at H; obtain ⟨bq6, hbq6⟩ : ∃ b_ : Bool, b_ = ((rd_T61 t329 1).f1) := ⟨_, rfl⟩; (replace H : (if (bq6 = true) then (some false) else (if (((rd_T61 t329 1).f2).length : Int) = 1 then (if 0 < (((rd_T61 t329 1).f2).length : Int) then (if (rd ((rd_T61 t329 1).f2) 0) = 1 then ((lift_Up.f k (([0, 1, 1] : List Int)) t329).bind fun t340 => (some ((t340.length : Int) == 3))) else (some false)) else (none)) else (some false))) = some r := by rw [← hbq6] at H; exact H); have Nbq6 := A_ hbq6; clear hbq6; by_cases c7 : (bq6 = true)
    ·subst c7
     (try rw [← Nbq6.out] at A1); rw [if_pos rfl] at H; exact absurd (Option.some.inj H) (by rw [hT]; decide)
    ·replace c7 := Bool.eq_false_iff.mpr c7
     subst c7; (try rw [← Nbq6.out] at A1); rw [if_neg (show ¬ (false = true) by decide)] at H; by_cases c27 : (((rd_T61 t329 1).f2).length : Int) = 1
     ·rw [if_pos c27] at H
      have c27b0 : ((((rd_T61 t329 1).f2).length : Int) == 1) = true := beq_iff_eq.mpr c27; have c27b1 : ((((rd_T61 t329 1).f2).length : Int) != 1) = false := bne_eq_false_iff_eq.mpr c27; clear c27; by_cases c28 : 0 < (((rd_T61 t329 1).f2).length : Int)
      ·rw [if_pos c28] at H
       have c28b0 := decide_eq_true c28; have c28b1 : decide (0 < ((rd_T61 t329 1).f2).length) = true := decide_eq_true (by omega); clear c28; by_cases c29 : (rd ((rd_T61 t329 1).f2) 0) = 1
       ·rw [if_pos c29] at H
        have c29b0 : ((rd ((rd_T61 t329 1).f2) 0) == 1) = true := beq_iff_eq.mpr c29; have c29b1 : ((rd ((rd_T61 t329 1).f2) 0) != 1) = false := bne_eq_false_iff_eq.mpr c29; clear c29; obtain ⟨y337, hy337⟩ : ∃ y_ : List Int, y_ = (([0, 1, 1] : List Int)) := ⟨_, rfl⟩; (first | rw [← hy337] at H | (have H2_ := (Option.bind_some _ _).symm.trans H; clear H; have H := H2_; clear H2_; (try rw [← hy337] at H))); have Ny337 := A_ hy337; clear hy337; replace H := Option.bind_eq_some_iff.mp H; obtain ⟨t340, A300, H⟩ := H; have A30 := A_ A300; clear A300; obtain rfl := Option.some.inj H; go_enter Try.func17, Try.ntmps17
        go_wp2_with (first | ((with_reducible refine gate_dst (N := 3) rfl ?_); (try (refine gate_guard (by rfl) ?_; dsimp only)); refine Kd.R_lit Kd.bool _ 4 ?hg (N := 3) ?hd (xs := ([true, false] : List Bool)) (inner := [.bool true, .bool false]) (ok := fun _ => True) (okp := fun _ => True) ?hr ?hp (fun _ hk => hk) trivial (Below.refl _ _) (Nat.le_refl _) (by simp) ?_; (case hd => rfl); (case hg => rfl); (case hr => first | (go_simp; done) | (go_simp; rfl)); (case hp => exact (Reps.one (show Kd.M Kd.bool _ _ _ true [.bool true] from rfl) (Reps.one (show Kd.M Kd.bool _ _ _ false [.bool false] from rfl) (Reps.none _ _)))); intro v314 w31 ho32 hb hg_ hnew_; clear hg_ hnew_; (first | rw [← Ny313.out] at ho32 | (simp only [Int.reduceToNat] at ho32; rw [← Ny313.out] at ho32)); have HO315 := A_ (Kd.R_lower ho32 (below_size bel)); replace HB := bst hb; clear hb ho32) | ((with_reducible refine gate_dst (N := 4) rfl ?_); (try (refine gate_guard (by rfl) ?_; dsimp only)); refine Kd.R_lit (Kd.int .i64) _ 3 ?hg (N := 4) ?hd (xs := ([(-1), (-1)] : List Int)) (inner := [.int .i64 (-1), .int .i64 (-1)]) (ok := fun _ => True) (okp := fun _ => True) ?hr ?hp (fun _ hk => hk) trivial (Below.refl _ _) (Nat.le_refl _) (by simp) ?_; (case hd => rfl); (case hg => rfl); (case hr => first | (go_simp; done) | (go_simp; rfl)); (case hp => exact (Reps.one (show Kd.M (Kd.int .i64) _ _ _ (-1) [.int .i64 (-1)] from rfl) (Reps.one (show Kd.M (Kd.int .i64) _ _ _ (-1) [.int .i64 (-1)] from rfl) (Reps.none _ _)))); intro v317 w33 ho34 hb hg_ hnew_; clear hg_ hnew_; (first | rw [← Ny316.out] at ho34 | (simp only [Int.reduceToNat] at ho34; rw [← Ny316.out] at ho34)); have HO318 := A_ (Kd.R_lower ho34 (below_size bel)); replace HO315 := A_ (Kd.R_below (kR HO315) hb); replace HB := bst hb; clear hb ho34) | ((with_reducible refine gate_dst (N := 6) rfl ?_); (try (refine gate_guard (by rfl) ?_; dsimp only)); refine Kd.N_lit k51 _ 51 ?hg (N' := 6) ?hd (xs := ([(⟨0, 3, ([] : List (S116)), ([] : List (S116))⟩ : S51)] : List (S51))) (inner := [.int .i64 0, .int .i64 3, .slice none 0 0, .slice none 0 0]) (ok := (fun k_ => some k_ ≠ (v314 : Value).ownBlock ∧ some k_ ≠ (v317 : Value).ownBlock)) (okp := (fun k_ => some k_ ≠ (v314 : Value).ownBlock ∧ some k_ ≠ (v317 : Value).ownBlock)) ?hr ?hp (fun _ hk => hk) ((show ∀ k_, w33.heap.size ≤ k_ → (fun k_ => some k_ ≠ (v314 : Value).ownBlock ∧ some k_ ≠ (v317 : Value).ownBlock) k_ from fun k_ hk => ⟨Kd.fresh' (Kd.R_lt (kR HO315)) k_ hk, Kd.fresh' (Kd.R_lt (kR HO318)) k_ hk⟩) _ (Nat.le_refl _)) (Below.refl _ _) (Nat.le_refl _) (by simp) ?_; (case hd => rfl); (case hg => rfl); (case hr => first | (go_simp; done) | (go_simp; rfl)); (case hp => exact (Reps.c4 (show Kd.FK k51 _ _ (⟨0, 3, ([] : List (S116)), ([] : List (S116))⟩ : S51) [.int .i64 0, .int .i64 3, .slice none 0 0, .slice none 0 0] from (k51_mkF _ _ (⟨0, 3, ([] : List (S116)), ([] : List (S116))⟩ : S51) (Nat.le_refl _) (Kd.F_nil _ _ _) (Nat.le_refl _) (Kd.F_nil _ _ _))) (Reps.none _ _))); intro v320 w35 ho36 hb hg_ hnew_; clear hg_ hnew_; (first | rw [← Ny319.out] at ho36 | (simp only [Int.reduceToNat] at ho36; rw [← Ny319.out] at ho36)); have HO321 := A_ (Kd.N_lower ho36 (below_size bel)); replace HO315 := A_ (Kd.R_below (kR HO315) hb); replace HO318 := A_ (Kd.R_below (kR HO318) hb); replace HB := bst hb; clear hb ho36; obtain ⟨Ao37, co37, eo37⟩ := Kd.N_slice HO321.out; subst eo37) | ((with_reducible refine gate_dst (N := 7) rfl ?_); (try (refine gate_guard (by rfl) ?_; dsimp only)); refine Kd.N_lit (Kd.slice 51 k51) _ 52 ?hg (N' := 7) ?hd (xs := ([[], y319] : List (List (S51)))) (inner := [.slice none 0 0, .slice Ao37 y319.length co37]) (ok := (fun k_ => some k_ ≠ (v314 : Value).ownBlock ∧ some k_ ≠ (v317 : Value).ownBlock)) (okp := (fun k_ => some k_ ≠ (v314 : Value).ownBlock ∧ some k_ ≠ (v317 : Value).ownBlock)) ?hr ?hp (fun _ hk => hk) ((show ∀ k_, w35.heap.size ≤ k_ → (fun k_ => some k_ ≠ (v314 : Value).ownBlock ∧ some k_ ≠ (v317 : Value).ownBlock) k_ from fun k_ hk => ⟨Kd.fresh' (Kd.R_lt (kR HO315)) k_ hk, Kd.fresh' (Kd.R_lt (kR HO318)) k_ hk⟩) _ (Nat.le_refl _)) (Below.refl _ _) (Nat.le_refl _) (by simp) ?_; (case hd => rfl); (case hg => rfl); (case hr => first | (go_simp; done) | (go_simp; rfl)); (case hp => exact (Reps.one (show Kd.FK (Kd.slice 51 k51) _ _ [] [.slice none 0 0] from (Kd.FK_slice_mk (Nat.le_refl _) (Kd.F_nil _ _ _))) (Reps.one (show Kd.FK (Kd.slice 51 k51) _ _ y319 [.slice Ao37 y319.length co37] from (Kd.FK_slice_mk (Kd.N_reads' (Kd.N_mono (ok' := (fun k_ => some k_ ≠ (v314 : Value).ownBlock ∧ some k_ ≠ (v317 : Value).ownBlock)) (HO321.out) (fun k_ hk => ⟨hk.1, hk.2⟩))).2.1 (Kd.N_F (Kd.N_mono (ok' := (fun k_ => some k_ ≠ (v314 : Value).ownBlock ∧ some k_ ≠ (v317 : Value).ownBlock)) (HO321.out) (fun k_ hk => ⟨hk.1, hk.2⟩))))) (Reps.none _ _)))); intro v323 w38 ho39 hb hg_ hnew_; clear hg_ hnew_; (first | rw [← Ny322.out] at ho39 | (simp only [Int.reduceToNat] at ho39; rw [← Ny322.out] at ho39)); have HO324 := A_ (Kd.N_lower ho39 (below_size bel)); replace HO315 := A_ (Kd.R_below (kR HO315) hb); replace HO318 := A_ (Kd.R_below (kR HO318) hb); replace HB := bst hb; clear HO321; clear hb ho39; obtain ⟨Ao40, co40, eo40⟩ := Kd.N_slice HO324.out; subst eo40; obtain ⟨Ao41, co41, eo41⟩ := Kd.R_slice HO318.out; subst eo41; obtain ⟨Ao42, co42, eo42⟩ := Kd.R_slice HO315.out; subst eo42) | ((with_reducible refine gate_dst (N := 1) rfl ?_); (try (refine gate_guard (by rfl) ?_; dsimp only)); refine bx 1 (cs := #[.slice none 0 0, .slice none 0 0, .slice none 0 0]) (t := 32) (h := ?_); intro gb325 hg w43 hbox hb; have BK325 := A_ hbox; have GW325 : Aside0 (w.heap.size ≤ gb325) := bge hg; replace HO315 := A_ (Kd.R_below (kR HO315) hb); replace HO318 := A_ (Kd.R_below (kR HO318) hb); replace HO324 := A_ (Kd.N_below (Kd.N_elderB (kN HO324) gb325 (Nat.le_of_eq hg.symm)) hb); replace HB := bst hb; clear hb hbox hg; have hcz44 := bc3 BK325) | ((with_reducible refine gate_dst (N := 12) rfl ?_); (try (refine gate_guard (by rfl) ?_; dsimp only)); refine Kd.R_lit k41 _ 41 ?hg (N := 12) ?hd (xs := ([(⟨true, 100, 0, 0⟩ : S41), (⟨true, 100, 3, 0⟩ : S41)] : List (S41))) (inner := [.bool true, .int .i64 100, .int .i64 0, .int .u8 0, .bool true, .int .i64 100, .int .i64 3, .int .u8 0]) (ok := fun _ => True) (okp := fun _ => True) ?hr ?hp (fun _ hk => hk) trivial (Below.refl _ _) (Nat.le_refl _) (by simp) ?_; (case hd => rfl); (case hg => rfl); (case hr => first | (go_simp; done) | (go_simp; rfl)); (case hp => exact (Reps.c4 (show Kd.M k41 _ _ _ (⟨true, 100, 0, 0⟩ : S41) [.bool true, .int .i64 100, .int .i64 0, .int .u8 0] from (k41_mkM _ _ _ (⟨true, 100, 0, 0⟩ : S41) )) (Reps.c4 (show Kd.M k41 _ _ _ (⟨true, 100, 3, 0⟩ : S41) [.bool true, .int .i64 100, .int .i64 3, .int .u8 0] from (k41_mkM _ _ _ (⟨true, 100, 3, 0⟩ : S41) )) (Reps.none _ _)))); intro v327 w45 ho46 hb hg_ hnew_; clear hg_ hnew_; (first | rw [← Ny326.out] at ho46 | (simp only [Int.reduceToNat] at ho46; rw [← Ny326.out] at ho46)); have HO328 := A_ (Kd.R_lower ho46 (below_size bel)); replace HO315 := A_ (Kd.R_below (by (with_reducible repeat (first | apply Kd.R_alloc | apply Kd.R_drewN | apply Kd.R_drew)); exact (Kd.R_mono (Kd.R_far (p := ⟨gb325, 2, none⟩) (Kd.R_far (p := ⟨gb325, 1, none⟩) (Kd.R_far (p := ⟨gb325, 0, none⟩) (Kd.R_types HO315.out BK325.out (by decide)) (fun _ hk => hk.2) (.slice Ao42 y313.length co42)) (fun _ hk => hk.2) (.slice Ao41 y316.length co41)) (fun _ hk => hk.2) (.slice Ao40 y322.length co40)) (fun _ h_ => h_.1))) hb); replace HO318 := A_ (Kd.R_below (by (with_reducible repeat (first | apply Kd.R_alloc | apply Kd.R_drewN | apply Kd.R_drew)); exact (Kd.R_mono (Kd.R_far (p := ⟨gb325, 2, none⟩) (Kd.R_far (p := ⟨gb325, 1, none⟩) (Kd.R_far (p := ⟨gb325, 0, none⟩) (Kd.R_types HO318.out BK325.out (by decide)) (fun _ hk => hk.2) (.slice Ao42 y313.length co42)) (fun _ hk => hk.2) (.slice Ao41 y316.length co41)) (fun _ hk => hk.2) (.slice Ao40 y322.length co40)) (fun _ h_ => h_.1))) hb); replace HO324 := A_ (Kd.N_elder' (by (with_reducible repeat (first | apply Kd.N_alloc | apply Kd.N_drewN | apply Kd.N_drew)); exact (Kd.N_mono (Kd.N_far (p := ⟨gb325, 2, none⟩) (Kd.N_far (p := ⟨gb325, 1, none⟩) (Kd.N_far (p := ⟨gb325, 0, none⟩) (Kd.N_mono HO324.out (fun k_ hk => (⟨hk, hk.2⟩ : _ ∧ k_ ≠ gb325))) (fun _ hk => hk.2) (.slice Ao42 y313.length co42)) (fun _ hk => hk.2) (.slice Ao41 y316.length co41)) (fun _ hk => hk.2) (.slice Ao40 y322.length co40)) (fun _ h_ => h_.1))) (Kd.R_base ho46) hb); replace BK325 := A_ (blk_below (g := gb325) (o := .cells #[.slice Ao42 y313.length co42, .slice Ao41 y316.length co41, .slice Ao40 y322.length co40] 32 (0, 0)) (bkp BK325) hb); replace HB := bst hb; clear hb ho46; obtain ⟨Ao47, co47, eo47⟩ := Kd.R_slice HO328.out; subst eo47) | ((with_reducible refine gate_dst (N := 13) rfl ?_); refine gl (some 13) Try.func18 #[.agg #[.slice Ao42 y313.length co42, .slice Ao41 y316.length co41, .slice Ao40 y322.length co40], .slice Ao47 y326.length co47, .int .i64 5] ?_; (with_reducible refine (lift_Answers.calls k _ _ y313 _ _ y316 _ _ y322 _ _ y326 5 t329 _ ?side1 ?side2 ?side3 ?side4 ?side5 ?side6 ?side7 ?side8 A1.out).mono ?_); (case side1 => exact rR HO315); (case side2 => exact (Kd.R_reads' HO315.out).2.1); (case side3 => exact rR HO318); (case side4 => exact (Kd.R_reads' HO318.out).2.1); (case side5 => exact rN HO324); (case side6 => exact (Kd.N_reads' HO324.out).2.1); (case side7 => exact rR HO328); (case side8 => exact (Kd.R_reads' HO328.out).2.1); rintro e w48 ⟨v330, rfl, ho0, hb⟩; refine ⟨_, rfl, ?_⟩; have HO331 := A_ (Kd.N_lower (Kd.N_mono (ok' := fun k_ => some k_ ≠ (.slice Ao42 y313.length co42 : Value).ownBlock ∧ some k_ ≠ (.slice Ao41 y316.length co41 : Value).ownBlock ∧ some k_ ≠ (.slice Ao40 y322.length co40 : Value).ownBlock ∧ some k_ ≠ (.slice Ao47 y326.length co47 : Value).ownBlock ∧ k_ ≠ gb325) ho0 (fun k_ hk_ => ⟨(Kd.fresh' (Kd.R_lt (kR HO315)) k_ hk_), (Kd.fresh' (Kd.R_lt (kR HO318)) k_ hk_), (Kd.fresh' (Kd.N_lt (kN HO324)) k_ hk_), (Kd.fresh' (Kd.R_lt (kR HO328)) k_ hk_), (Kd.freshB (bkq BK325) k_ hk_)⟩)) (below_size bel)); replace HO315 := A_ (Kd.R_below (kR HO315) hb); replace HO318 := A_ (Kd.R_below (kR HO318) hb); replace HO324 := A_ (Kd.N_elder' (kN HO324) (Kd.N_base ho0) hb); replace HO328 := A_ (Kd.R_below (kR HO328) hb); replace BK325 := bkb BK325 hb; replace HB := bst hb; (try clear hb); obtain ⟨Ao49, co49, eo49⟩ := Kd.N_slice HO331.out; subst eo49; have p332 : 0 ≤ (1 : Int) := (by omega); have q332 : 1 < (t329.length : Int) := odt; obtain ⟨ad332, A332_2, c332_2, e332, hx332_0, hx332_1, hx332_2, hl332_2, hi332_2⟩ := at_T61 (Kd.N_reads' HO331.out).2.2 1 p332 q332; (try rw [← Nbq4.out] at hx332_0); (try rw [← Nbq6.out] at hx332_0); (try rw [← Nbq4.out] at hx332_1); (try rw [← Nbq6.out] at hx332_1); cases e332; obtain ⟨ce332, hce332, hMe332, hcc332⟩ := Kd.N_get HO331.out z61 1 p332 (by first | exact q332 | exact odt | (have e_ := (Kd.N_reads' HO331.out).1; omega)); obtain ⟨ua332_2, uc332_2, rfl, ul332_2, ge332_2⟩ := k61_openF hMe332; have hv332_2 := hcc332 2 _ rfl; rw [add_field _ _ 2 (by omega)] at hv332_2; replace hv332_2 := Option.some.inj (hv332_2.symm.trans hx332_2); injection hv332_2 with hva_ hvn_ hvc_; rw [hva_] at ge332_2; rw [hvc_] at ul332_2; have HL332_2 := A_ (show Kd.V (Kd.int .i64) 3 _ w.heap.size _ _ ((rd_T61 t329 1).f2) from Kd.V_mk ul332_2 ge332_2); clear hva_ hvn_ hvc_ ge332_2 ul332_2; clear hcc332 hce332; (try simp only [show (1 : Int).toNat = 1 from rfl, Nat.reduceMul, Nat.reduceEqDiff, Go.Addr.add, ↓reduceIte] at hx332_0); (try simp only [show (1 : Int).toNat = 1 from rfl, Nat.reduceMul, Nat.reduceEqDiff, Go.Addr.add, ↓reduceIte] at hx332_1); (try simp only [show (1 : Int).toNat = 1 from rfl, Nat.reduceMul, Nat.reduceEqDiff, Go.Addr.add, ↓reduceIte] at hx332_2); have qi332 : (1 < t329.length) = True := eq_true (by omega); (try rw [show ((1 : Int)).toNat = 1 from rfl] at hx332_0); (try rw [show 1 * 3 = 3 from rfl] at hx332_0); (try rw [show ((1 : Int)).toNat = 1 from rfl] at hx332_1); (try rw [show 1 * 3 = 3 from rfl] at hx332_1); (try rw [show ((1 : Int)).toNat = 1 from rfl] at hx332_2); (try rw [show 1 * 3 = 3 from rfl] at hx332_2); have HR332_2 := A_ hi332_2; have HC332_2 := A_ hl332_2; clear hi332_2 hl332_2; replace p332 := eq_true p332; replace q332 := eq_true q332; have p333 : 0 ≤ (1 : Int) := (by omega); have q333 : 1 < (t329.length : Int) := odt; obtain ⟨ad333, A333_2, c333_2, e333, hx333_0, hx333_1, hx333_2, hl333_2, hi333_2⟩ := at_T61 (Kd.N_reads' HO331.out).2.2 1 p333 q333; (try rw [← Nbq4.out] at hx333_0); (try rw [← Nbq6.out] at hx333_0); (try rw [← Nbq4.out] at hx333_1); (try rw [← Nbq6.out] at hx333_1); obtain rfl : ad332 = ad333 := (by injection e333); obtain ⟨ce333, hce333, hMe333, hcc333⟩ := Kd.N_get HO331.out z61 1 p333 (by first | exact q333 | exact odt | (have e_ := (Kd.N_reads' HO331.out).1; omega)); obtain ⟨ua333_2, uc333_2, rfl, ul333_2, ge333_2⟩ := k61_openF hMe333; have hv333_2 := hcc333 2 _ rfl; rw [add_field _ _ 2 (by omega)] at hv333_2; replace hv333_2 := Option.some.inj (hv333_2.symm.trans hx333_2); injection hv333_2 with hva_ hvn_ hvc_; rw [hva_] at ge333_2; rw [hvc_] at ul333_2; have HL333_2 := A_ (show Kd.V (Kd.int .i64) 3 _ w.heap.size _ _ ((rd_T61 t329 1).f2) from Kd.V_mk ul333_2 ge333_2); clear hva_ hvn_ hvc_ ge333_2 ul333_2; clear hcc333 hce333; (try simp only [show (1 : Int).toNat = 1 from rfl, Nat.reduceMul, Nat.reduceEqDiff, Go.Addr.add, ↓reduceIte] at hx333_0); (try simp only [show (1 : Int).toNat = 1 from rfl, Nat.reduceMul, Nat.reduceEqDiff, Go.Addr.add, ↓reduceIte] at hx333_1); (try simp only [show (1 : Int).toNat = 1 from rfl, Nat.reduceMul, Nat.reduceEqDiff, Go.Addr.add, ↓reduceIte] at hx333_2); have qi333 : (1 < t329.length) = True := eq_true (by omega); (try rw [show ((1 : Int)).toNat = 1 from rfl] at hx333_0); (try rw [show 1 * 3 = 3 from rfl] at hx333_0); (try rw [show ((1 : Int)).toNat = 1 from rfl] at hx333_1); (try rw [show 1 * 3 = 3 from rfl] at hx333_1); (try rw [show ((1 : Int)).toNat = 1 from rfl] at hx333_2); (try rw [show 1 * 3 = 3 from rfl] at hx333_2); have HR333_2 := A_ hi333_2; have HC333_2 := A_ hl333_2; clear hi333_2 hl333_2; replace p333 := eq_true p333; replace q333 := eq_true q333; have ea_ := Option.some.inj (hx332_2.symm.trans hx333_2); injection ea_ with ea_ en_ ec_; subst ea_; subst ec_; clear en_; have p334 : 0 ≤ (1 : Int) := (by omega); have q334 : 1 < (t329.length : Int) := odt; obtain ⟨ad334, A334_2, c334_2, e334, hx334_0, hx334_1, hx334_2, hl334_2, hi334_2⟩ := at_T61 (Kd.N_reads' HO331.out).2.2 1 p334 q334; (try rw [← Nbq4.out] at hx334_0); (try rw [← Nbq6.out] at hx334_0); (try rw [← Nbq4.out] at hx334_1); (try rw [← Nbq6.out] at hx334_1); obtain rfl : ad332 = ad334 := (by injection e334); obtain ⟨ce334, hce334, hMe334, hcc334⟩ := Kd.N_get HO331.out z61 1 p334 (by first | exact q334 | exact odt | (have e_ := (Kd.N_reads' HO331.out).1; omega)); obtain ⟨ua334_2, uc334_2, rfl, ul334_2, ge334_2⟩ := k61_openF hMe334; have hv334_2 := hcc334 2 _ rfl; rw [add_field _ _ 2 (by omega)] at hv334_2; replace hv334_2 := Option.some.inj (hv334_2.symm.trans hx334_2); injection hv334_2 with hva_ hvn_ hvc_; rw [hva_] at ge334_2; rw [hvc_] at ul334_2; have HL334_2 := A_ (show Kd.V (Kd.int .i64) 3 _ w.heap.size _ _ ((rd_T61 t329 1).f2) from Kd.V_mk ul334_2 ge334_2); clear hva_ hvn_ hvc_ ge334_2 ul334_2; clear hcc334 hce334; (try simp only [show (1 : Int).toNat = 1 from rfl, Nat.reduceMul, Nat.reduceEqDiff, Go.Addr.add, ↓reduceIte] at hx334_0); (try simp only [show (1 : Int).toNat = 1 from rfl, Nat.reduceMul, Nat.reduceEqDiff, Go.Addr.add, ↓reduceIte] at hx334_1); (try simp only [show (1 : Int).toNat = 1 from rfl, Nat.reduceMul, Nat.reduceEqDiff, Go.Addr.add, ↓reduceIte] at hx334_2); have qi334 : (1 < t329.length) = True := eq_true (by omega); (try rw [show ((1 : Int)).toNat = 1 from rfl] at hx334_0); (try rw [show 1 * 3 = 3 from rfl] at hx334_0); (try rw [show ((1 : Int)).toNat = 1 from rfl] at hx334_1); (try rw [show 1 * 3 = 3 from rfl] at hx334_1); (try rw [show ((1 : Int)).toNat = 1 from rfl] at hx334_2); (try rw [show 1 * 3 = 3 from rfl] at hx334_2); have HR334_2 := A_ hi334_2; have HC334_2 := A_ hl334_2; clear hi334_2 hl334_2; replace p334 := eq_true p334; replace q334 := eq_true q334; have ea_ := Option.some.inj (hx332_2.symm.trans hx334_2); injection ea_ with ea_ en_ ec_; subst ea_; subst ec_; clear en_; have p335 : 0 ≤ (1 : Int) := (by omega); have q335 : 1 < (t329.length : Int) := odt; obtain ⟨ad335, A335_2, c335_2, e335, hx335_0, hx335_1, hx335_2, hl335_2, hi335_2⟩ := at_T61 (Kd.N_reads' HO331.out).2.2 1 p335 q335; (try rw [← Nbq4.out] at hx335_0); (try rw [← Nbq6.out] at hx335_0); (try rw [← Nbq4.out] at hx335_1); (try rw [← Nbq6.out] at hx335_1); obtain rfl : ad332 = ad335 := (by injection e335); obtain ⟨ce335, hce335, hMe335, hcc335⟩ := Kd.N_get HO331.out z61 1 p335 (by first | exact q335 | exact odt | (have e_ := (Kd.N_reads' HO331.out).1; omega)); obtain ⟨ua335_2, uc335_2, rfl, ul335_2, ge335_2⟩ := k61_openF hMe335; have hv335_2 := hcc335 2 _ rfl; rw [add_field _ _ 2 (by omega)] at hv335_2; replace hv335_2 := Option.some.inj (hv335_2.symm.trans hx335_2); injection hv335_2 with hva_ hvn_ hvc_; rw [hva_] at ge335_2; rw [hvc_] at ul335_2; have HL335_2 := A_ (show Kd.V (Kd.int .i64) 3 _ w.heap.size _ _ ((rd_T61 t329 1).f2) from Kd.V_mk ul335_2 ge335_2); clear hva_ hvn_ hvc_ ge335_2 ul335_2; clear hcc335 hce335; (try simp only [show (1 : Int).toNat = 1 from rfl, Nat.reduceMul, Nat.reduceEqDiff, Go.Addr.add, ↓reduceIte] at hx335_0); (try simp only [show (1 : Int).toNat = 1 from rfl, Nat.reduceMul, Nat.reduceEqDiff, Go.Addr.add, ↓reduceIte] at hx335_1); (try simp only [show (1 : Int).toNat = 1 from rfl, Nat.reduceMul, Nat.reduceEqDiff, Go.Addr.add, ↓reduceIte] at hx335_2); have qi335 : (1 < t329.length) = True := eq_true (by omega); (try rw [show ((1 : Int)).toNat = 1 from rfl] at hx335_0); (try rw [show 1 * 3 = 3 from rfl] at hx335_0); (try rw [show ((1 : Int)).toNat = 1 from rfl] at hx335_1); (try rw [show 1 * 3 = 3 from rfl] at hx335_1); (try rw [show ((1 : Int)).toNat = 1 from rfl] at hx335_2); (try rw [show 1 * 3 = 3 from rfl] at hx335_2); have HR335_2 := A_ hi335_2; have HC335_2 := A_ hl335_2; clear hi335_2 hl335_2; replace p335 := eq_true p335; replace q335 := eq_true q335; have ea_ := Option.some.inj (hx332_2.symm.trans hx335_2); injection ea_ with ea_ en_ ec_; subst ea_; subst ec_; clear en_; have p336 : 0 ≤ (0 : Int) := (by omega); have q336 : 0 < (((rd_T61 t329 1).f2).length : Int) := odt; obtain ⟨ad336, e336, hx336_0⟩ := Kd.at_int (by repeat (first | (with_reducible exact HR335_2.out) | (with_reducible refine Kd.C_alloc ?_ _) | (with_reducible refine Kd.C_drewN ?_ _) | (with_reducible refine Kd.C_drew ?_) | exact HR335_2.out)) 0 p336 q336; cases e336; have qi336 : (0 < ((rd_T61 t329 1).f2).length) = True := eq_true (by omega); (try rw [show ((0 : Int)).toNat = 0 from rfl] at hx336_0); (try rw [Addr.add_zero'] at hx336_0); replace p336 := eq_true p336; replace q336 := eq_true q336) | ((with_reducible refine gate_dst (N := 48) rfl ?_); (try (refine gate_guard (by rfl) ?_; dsimp only)); refine Kd.R_lit (Kd.int .i64) _ 3 ?hg (N := 48) ?hd (xs := ([0, 1, 1] : List Int)) (inner := [.int .i64 0, .int .i64 1, .int .i64 1]) (ok := fun _ => True) (okp := fun _ => True) ?hr ?hp (fun _ hk => hk) trivial (Below.refl _ _) (Nat.le_refl _) (by simp) ?_; (case hd => rfl); (case hg => rfl); (case hr => first | (go_simp; done) | (go_simp; rfl)); (case hp => exact (Reps.one (show Kd.M (Kd.int .i64) _ _ _ 0 [.int .i64 0] from rfl) (Reps.one (show Kd.M (Kd.int .i64) _ _ _ 1 [.int .i64 1] from rfl) (Reps.one (show Kd.M (Kd.int .i64) _ _ _ 1 [.int .i64 1] from rfl) (Reps.none _ _))))); intro v338 w50 ho51 hb hg_ hnew_; clear hg_ hnew_; (first | rw [← Ny337.out] at ho51 | (simp only [Int.reduceToNat] at ho51; rw [← Ny337.out] at ho51)); have HO339 := A_ (Kd.R_lower (Kd.R_new' ho51 (Kd.R_lt (kR HO318))) (below_size bel)); replace HO315 := A_ (Kd.R_below (kR HO315) hb); replace HO318 := A_ (Kd.R_elder' (kR HO318) (Kd.R_base ho51) hb); replace HO324 := A_ (Kd.N_elder' (kN HO324) (Kd.R_base ho51) hb); replace HO328 := A_ (Kd.R_below (kR HO328) hb); replace HO331 := A_ (Kd.N_elder' (kN HO331) (Kd.R_base ho51) hb); replace HL332_2 := A_ (Kd.V_elder' (by exact fV HL332_2) (Kd.R_base ho51) hb); replace HL333_2 := A_ (Kd.V_elder' (by exact fV HL333_2) (Kd.R_base ho51) hb); replace HL334_2 := A_ (Kd.V_elder' (by exact fV HL334_2) (Kd.R_base ho51) hb); replace HL335_2 := A_ (Kd.V_elder' (by exact fV HL335_2) (Kd.R_base ho51) hb); replace BK325 := bkb BK325 hb; replace HR332_2 := kC HR332_2 hb; replace HR333_2 := kC HR333_2 hb; replace HR334_2 := kC HR334_2 hb; replace HR335_2 := kC HR335_2 hb; replace HB := bst hb; clear hb ho51; obtain ⟨Ao52, co52, eo52⟩ := Kd.R_slice HO339.out; subst eo52) | (go_at_call 30; (with_reducible refine (lift_Up.calls k _ _ y337 _ _ t329 t340 _ ?side1 ?side2 ?side3 ?side4 A30.out).mono ?_); (case side1 => exact rR HO339); (case side2 => exact (Kd.R_reads' HO339.out).2.1); (case side3 => exact rN HO331); (case side4 => exact (Kd.N_reads' HO331.out).2.1); rintro e w53 ⟨v341, rfl, ho0, hb⟩; have HO342 := A_ (Kd.N_lower (Kd.N_mono (ok' := fun k_ => some k_ ≠ (.slice Ao42 y313.length co42 : Value).ownBlock ∧ some k_ ≠ (.slice Ao41 y316.length co41 : Value).ownBlock ∧ some k_ ≠ (.slice Ao40 y322.length co40 : Value).ownBlock ∧ some k_ ≠ (.slice Ao47 y326.length co47 : Value).ownBlock ∧ some k_ ≠ (.slice (some ad332) t329.length co49 : Value).ownBlock ∧ some k_ ≠ (.slice Ao52 y337.length co52 : Value).ownBlock ∧ k_ ≠ gb325) (Kd.S_N (Kd.S_bound ho0)) (fun k_ hk_ => ⟨(Kd.fresh' (Kd.R_lt (kR HO315)) k_ hk_.2.1), (Kd.fresh' (Kd.R_lt (kR HO318)) k_ hk_.2.1), (Kd.fresh' (Kd.N_lt (kN HO324)) k_ hk_.2.1), (Kd.fresh' (Kd.R_lt (kR HO328)) k_ hk_.2.1), (Kd.fresh' (Kd.N_lt (kN HO331)) k_ hk_.2.1), (Kd.fresh' (Kd.R_lt (kR HO339)) k_ hk_.2.1), (Kd.freshB (bkq BK325) k_ hk_.2.1)⟩)) (below_size bel)); replace HO315 := A_ (Kd.R_below (kR HO315) hb); replace HO318 := A_ (Kd.R_below (kR HO318) hb); replace HO324 := A_ (Kd.N_elder' (kN HO324) (Kd.S_base ho0) hb); replace HO328 := A_ (Kd.R_below (kR HO328) hb); replace HO331 := A_ (Kd.N_elder' (kN HO331) (Kd.S_base ho0) hb); replace HL332_2 := A_ (Kd.V_elder' (by exact fV HL332_2) (Kd.S_base ho0) hb); replace HL333_2 := A_ (Kd.V_elder' (by exact fV HL333_2) (Kd.S_base ho0) hb); replace HL334_2 := A_ (Kd.V_elder' (by exact fV HL334_2) (Kd.S_base ho0) hb); replace HL335_2 := A_ (Kd.V_elder' (by exact fV HL335_2) (Kd.S_base ho0) hb); replace HO339 := A_ (Kd.R_below (kR HO339) hb); replace BK325 := bkb BK325 hb; replace HR332_2 := kC HR332_2 hb; replace HR333_2 := kC HR333_2 hb; replace HR334_2 := kC HR334_2 hb; replace HR335_2 := kC HR335_2 hb; replace HB := bst hb; (try clear hb); obtain ⟨Ao54, co54, eo54⟩ := Kd.N_slice HO342.out; subst eo54))
        go_ret; exact ⟨eqd, bel⟩
       ·rw [if_neg c29] at H
        have c29b0 : ((rd ((rd_T61 t329 1).f2) 0) == 1) = false := beq_eq_false_iff_ne.mpr c29; have c29b1 : ((rd ((rd_T61 t329 1).f2) 0) != 1) = true := bne_iff_ne.mpr c29; exact absurd (Option.some.inj H) (by rw [hT]; decide)
      ·rw [if_neg c28] at H
       exact absurd H (by simp)
     ·rw [if_neg c27] at H
      have c27b0 : ((((rd_T61 t329 1).f2).length : Int) == 1) = false := beq_eq_false_iff_ne.mpr c27; have c27b1 : ((((rd_T61 t329 1).f2).length : Int) != 1) = true := bne_iff_ne.mpr c27; exact absurd (Option.some.inj H) (by rw [hT]; decide)
   ·replace c5 := Bool.eq_false_iff.mpr c5
    subst c5; (try rw [← Nbq4.out] at A1); rw [if_neg (show ¬ (false = true) by decide)] at H; exact absurd (Option.some.inj H) (by rw [hT]; decide)
  ·rw [if_neg c3] at H
   exact absurd H (by simp)
 ·rw [if_neg c2] at H
  have c2b0 : ((t329.length : Int) == 2) = false := beq_eq_false_iff_ne.mpr c2; have c2b1 : ((t329.length : Int) != 2) = true := bne_iff_ne.mpr c2; exact absurd (Option.some.inj H) (by rw [hT]; decide)
mutual
def lift_Same.j0 : Nat → Bool → Bool → Bool → List Int → Bool → Bool → List Int → Option (Bool)
 | 0, _, _, _, _, _, _, _ => none
 | k + 1, x26, x344000, x344001, x344002, x345000, x345001, x345002 => if x26 = true then (some false) else (lift_Same.l0 k (x344002.length : Int) 0 x344000 x344001 x344002 x345000 x345001 x345002)
def lift_Same.l0 : Nat → Int → Int → Bool → Bool → List Int → Bool → Bool → List Int → Option (Bool)
 | 0, _, _, _, _, _, _, _, _ => none
 | k + 1, x29, x30, x344000, x344001, x344002, x345000, x345001, x345002 => if x30 < x29 then (if 0 ≤ x30 then (if x30 < (x344002.length : Int) then (if x30 < (x345002.length : Int) then (if (rd x344002 x30) = (rd x345002 x30) then (lift_Same.l0 k x29 (wrap64 (x30 + 1)) x344000 x344001 x344002 x345000 x345001 x345002) else (some false)) else (none)) else (none)) else (none)) else (some true)
end
def lift_Same.f (k : Nat) (a0_0 : Bool) (a0_1 : Bool) (l0_2 : List Int) (a1_0 : Bool) (a1_1 : Bool) (l1_2 : List Int) : Option (Bool) := if (a0_0 != a1_0) = true then (lift_Same.j0 k true a0_0 a0_1 l0_2 a1_0 a1_1 l1_2) else (if (a0_1 != a1_1) = true then (lift_Same.j0 k true a0_0 a0_1 l0_2 a1_0 a1_1 l1_2) else (lift_Same.j0 k ((l0_2.length : Int) != (l1_2.length : Int)) a0_0 a0_1 l0_2 a1_0 a1_1 l1_2))
theorem lift_Same.mono_l : ∀ k, (∀ y0 y1 y2 y3 y4 y5 y6, LeO (lift_Same.j0 k y0 y1 y2 y3 y4 y5 y6) (lift_Same.j0 (k + 1) y0 y1 y2 y3 y4 y5 y6)) ∧ (∀ y0 y1 y2 y3 y4 y5 y6 y7, LeO (lift_Same.l0 k y0 y1 y2 y3 y4 y5 y6 y7) (lift_Same.l0 (k + 1) y0 y1 y2 y3 y4 y5 y6 y7))
 | 0 => ⟨fun _ _ _ _ _ _ _ r h => by simp [lift_Same.j0] at h, fun _ _ _ _ _ _ _ _ r h => by simp [lift_Same.l0] at h⟩
 | k + 1 => by
  obtain ⟨ih0, ih1⟩ := lift_Same.mono_l k
  refine ⟨?_, ?_⟩<;> intros <;> (first | unfold lift_Same.j0 | unfold lift_Same.l0) <;> repeat' first
   | (with_reducible exact ih0 _ _ _ _ _ _ _)
   | (with_reducible exact ih1 _ _ _ _ _ _ _ _)
   | (with_reducible exact LeO.refl _)
   | (with_reducible exact LeO.none _)
   | (with_reducible refine LeO.ite ?_ ?_)
   | (with_reducible refine LeO.bind ?_ (fun _ => ?_))
   | exact ih0 _ _ _ _ _ _ _
   | exact ih1 _ _ _ _ _ _ _ _
   | exact LeO.none _
   | refine LeO.ite ?_ ?_
   | refine LeO.bind ?_ (fun _ => ?_)
theorem lift_Same.mono : ∀ a0 a1 a2 a3 a4 a5 k, LeO (lift_Same.f k a0 a1 a2 a3 a4 a5) (lift_Same.f (k + 1) a0 a1 a2 a3 a4 a5) := by
 intro a0 a1 a2 a3 a4 a5 k; obtain ⟨ih0, ih1⟩ := lift_Same.mono_l k; unfold lift_Same.f
 repeat' first
   | (with_reducible exact ih0 _ _ _ _ _ _ _)
   | (with_reducible exact ih1 _ _ _ _ _ _ _ _)
   | (with_reducible exact LeO.refl _)
   | (with_reducible exact LeO.none _)
   | (with_reducible refine LeO.ite ?_ ?_)
   | (with_reducible refine LeO.bind ?_ (fun _ => ?_))
   | exact ih0 _ _ _ _ _ _ _
   | exact ih1 _ _ _ _ _ _ _ _
   | exact LeO.none _
   | refine LeO.ite ?_ ?_
   | refine LeO.bind ?_ (fun _ => ?_)
set_option maxHeartbeats 8000000 in
set_option maxRecDepth 100000 in
theorem lift_Same.calls (k : Nat) (a0_0 : Bool) (a0_1 : Bool) (A0_2 : Option Addr) (c0_2 : Nat) (l0_2 : List Int) (a1_0 : Bool) (a1_1 : Bool) (A1_2 : Option Addr) (c1_2 : Nat) (l1_2 : List Int) (r : Bool) (w : World) (hr0_2 : Kd.C (Kd.int .i64) w A0_2 l0_2.length l0_2) (hc0_2 : l0_2.length ≤ c0_2) (hr1_2 : Kd.C (Kd.int .i64) w A1_2 l1_2.length l1_2) (hc1_2 : l1_2.length ≤ c1_2) (h : lift_Same.f k a0_0 a0_1 l0_2 a1_0 a1_1 l1_2 = some r) :
  Calls Try.prog 20 #[.agg #[.bool a0_0, .bool a0_1, .slice A0_2 l0_2.length c0_2], .agg #[.bool a1_0, .bool a1_1, .slice A1_2 l1_2.length c1_2]] w fun e w' => e = .returned (.bool r) ∧ Below w.heap.size w w' := by
 have hu61 := Try.underlying61; have HR0_2 := A_ hr0_2; have HC0_2 := A_ hc0_2; clear hr0_2 hc0_2; have HR1_2 := A_ hr1_2; have HC1_2 := A_ hc1_2; clear hr1_2 hc1_2; have HB := A_ (Below.refl w.heap.size w); unfold lift_Same.f at h; have H := h; clear h; have HC3 := A_ H; clear H; go_enter Try.func20, Try.ntmps20; go_upto_region 1 with (first | ((with_reducible refine gate_dst (N := 2) rfl ?_); (try (refine gate_guard (by rfl) ?_; dsimp only)); refine bx 2 (cs := #[.bool a0_0, .bool a0_1, .slice A0_2 l0_2.length c0_2]) (t := 61) (h := ?_); intro gb343 hg w4 hbox hb; have BK343 := A_ hbox; have GW343 : Aside0 (w.heap.size ≤ gb343) := bge hg; replace HB := bst hb; clear hb hbox hg) | ((with_reducible refine gate_dst (N := 3) rfl ?_); (try (refine gate_guard (by rfl) ?_; dsimp only)); refine bx 3 (cs := #[.bool a1_0, .bool a1_1, .slice A1_2 l1_2.length c1_2]) (t := 61) (h := ?_); intro gb344 hg w5 hbox hb; have BK344 := A_ hbox; have GW344 : Aside0 (w.heap.size ≤ gb344) := bge hg; have NB343_344 := bne BK343 hg; have NB344_343 := bnf BK343 hg; replace BK343 := bkb BK343 hb; replace HB := bst hb; clear hb hbox hg)); (repeat (go_quiet (first | ((with_reducible refine gate_dst (N := 2) rfl ?_); (try (refine gate_guard (by rfl) ?_; dsimp only)); refine bx 2 (cs := #[.bool a0_0, .bool a0_1, .slice A0_2 l0_2.length c0_2]) (t := 61) (h := ?_); intro gb343 hg w4 hbox hb; have BK343 := A_ hbox; have GW343 : Aside0 (w.heap.size ≤ gb343) := bge hg; replace HB := bst hb; clear hb hbox hg) | ((with_reducible refine gate_dst (N := 3) rfl ?_); (try (refine gate_guard (by rfl) ?_; dsimp only)); refine bx 3 (cs := #[.bool a1_0, .bool a1_1, .slice A1_2 l1_2.length c1_2]) (t := 61) (h := ?_); intro gb344 hg w5 hbox hb; have BK344 := A_ hbox; have GW344 : Aside0 (w.heap.size ≤ gb344) := bge hg; have NB343_344 := bne BK343 hg; have NB344_343 := bnf BK343 hg; replace BK343 := bkb BK343 hb; replace HB := bst hb; clear hb hbox hg)); go_upto_region 1 with (first | ((with_reducible refine gate_dst (N := 2) rfl ?_); (try (refine gate_guard (by rfl) ?_; dsimp only)); refine bx 2 (cs := #[.bool a0_0, .bool a0_1, .slice A0_2 l0_2.length c0_2]) (t := 61) (h := ?_); intro gb343 hg w4 hbox hb; have BK343 := A_ hbox; have GW343 : Aside0 (w.heap.size ≤ gb343) := bge hg; replace HB := bst hb; clear hb hbox hg) | ((with_reducible refine gate_dst (N := 3) rfl ?_); (try (refine gate_guard (by rfl) ?_; dsimp only)); refine bx 3 (cs := #[.bool a1_0, .bool a1_1, .slice A1_2 l1_2.length c1_2]) (t := 61) (h := ?_); intro gb344 hg w5 hbox hb; have BK344 := A_ hbox; have GW344 : Aside0 (w.heap.size ≤ gb344) := bge hg; have NB343_344 := bne BK343 hg; have NB344_343 := bnf BK343 hg; replace BK343 := bkb BK343 hb; replace HB := bst hb; clear hb hbox hg)))); (try simp only [Act.put, List.setIfInBounds_toArray, List.set_cons_zero, List.set_cons_succ])
 go_cut [26] (fun v26 wc => ∃ (kq : Nat) (x26_2 : Bool), v26 = .bool x26_2 ∧ Aside0 (lift_Same.j0 kq x26_2 a0_0 a0_1 l0_2 a1_0 a1_1 l1_2 = some r) ∧ Aside0 (kq ≤ k) ∧ Aside0 (wc.heap[gb343]? = some (.cells #[.bool a0_0, .bool a0_1, (.slice A0_2 l0_2.length c0_2)] 61 (0, 0))) ∧ Aside0 (wc.heap[gb344]? = some (.cells #[.bool a1_0, .bool a1_1, (.slice A1_2 l1_2.length c1_2)] 61 (0, 0))) ∧ Aside0 (Below w.heap.size w wc))
 case first =>
  have H := HC3.out; clear HC3; by_cases c6 : (a0_0 != a1_0) = true
  ·rw [if_pos c6] at H
   have c6b0 : (a0_0 != a1_0) = true := c6; (try (have c6b1 : decide (a0_0 = a1_0) = false := by simpa using c6)); (try (have c6b2 : (a0_0 == a1_0) = false := by simpa using c6)); (try (have c6b3 : ¬ (a0_0 = a1_0) := by simpa using c6)); clear c6; (first | rw [c6b0] | (simp only [i64_w, i32_w]; rw [c6b0]) | skip); have H' := A_ H; clear H; have hnb7 := NB343_344.out; have hnc7 := NB344_343.out; have hcz8 := bc3 BK343; have hcz9 := bc3 BK344; go_wp2; (repeat (go_quiet (fail); try go_wp2)); go_meet
   case rel => exact ⟨_, (true), eqs, H', ⟨by first | omega | exact Nat.le_refl _⟩, ⟨bkq BK343⟩, ⟨bkq BK344⟩, ⟨bel⟩⟩
  ·rw [if_neg c6] at H
   (have c6b0 : (a0_0 != a1_0) = false := by simpa using c6); (try (have c6b1 : decide (a0_0 = a1_0) = true := by simpa using c6)); (try (have c6b2 : (a0_0 == a1_0) = true := by simpa using c6)); clear c6; (first | rw [c6b0] | (simp only [i64_w, i32_w]; rw [c6b0]) | skip); by_cases c10 : (a0_1 != a1_1) = true
   ·rw [if_pos c10] at H
    have c10b0 : (a0_1 != a1_1) = true := c10; (try (have c10b1 : decide (a0_1 = a1_1) = false := by simpa using c10)); (try (have c10b2 : (a0_1 == a1_1) = false := by simpa using c10)); (try (have c10b3 : ¬ (a0_1 = a1_1) := by simpa using c10)); clear c10; have H' := A_ H; clear H; have hnb11 := NB343_344.out; have hnc11 := NB344_343.out; have hcz12 := bc3 BK343; have hcz13 := bc3 BK344; go_wp2; (repeat (go_quiet (fail); try go_wp2)); go_meet
    case rel => exact ⟨_, (true), eqs, H', ⟨by first | omega | exact Nat.le_refl _⟩, ⟨bkq BK343⟩, ⟨bkq BK344⟩, ⟨bel⟩⟩
   ·rw [if_neg c10] at H
    (have c10b0 : (a0_1 != a1_1) = false := by simpa using c10); (try (have c10b1 : decide (a0_1 = a1_1) = true := by simpa using c10)); (try (have c10b2 : (a0_1 == a1_1) = true := by simpa using c10)); clear c10; have H' := A_ H; clear H; have hnb14 := NB343_344.out; have hnc14 := NB344_343.out; have hcz15 := bc3 BK343; have hcz16 := bc3 BK344; go_wp2; (repeat (go_quiet (fail); try go_wp2)); go_meet
    case rel => exact ⟨_, (((l0_2.length : Int) != (l1_2.length : Int))), eqs, H', ⟨by first | omega | exact Nat.le_refl _⟩, ⟨bkq BK343⟩, ⟨bkq BK344⟩, ⟨bel⟩⟩
 case rest =>
  clear HC3; (try clear c1); (try clear c2); (try clear p2); (try clear c6); (try clear c6b0); (try clear c6b1); (try clear c6b2); (try clear c7); (try clear c10); (try clear c10b0); (try clear c10b1); (try clear c10b2); (try clear c11); (try clear c14); (try clear hcz12); (try clear hcz13); (try clear hcz15); (try clear hcz16); (try clear hcz8); (try clear hcz9); obtain ⟨kq, x26_2, rfl, HA, HJ2, BK343, BK344, HB⟩ := hcut
  cases kq with
  | zero => exact absurd HA.out (by simp [lift_Same.j0])
  | succ kj2 =>
   have H := HA.out; clear HA; simp only [lift_Same.j0] at H; by_cases c17 : x26_2 = true
   ·subst c17
    rw [if_pos rfl] at H; obtain rfl := Option.some.inj H; go_wp2; (repeat (go_quiet (fail); try go_wp2)); go_ret; exact ⟨eqd, bel⟩
   ·replace c17 := Bool.eq_false_iff.mpr c17
    subst c17; rw [if_neg (show ¬ (false = true) by decide)] at H; have H' := A_ H; clear H; have hnb18 := NB343_344.out; have hnc18 := NB344_343.out; have hcz19 := bc3 BK343; go_wp2; (repeat (go_quiet (fail); try go_wp2)); go_loopg [30] kj2 (fun kq v30 w' => ∃ (x30_2 : Int), v30 = .int .i64 x30_2 ∧ Aside0 (lift_Same.l0 kq (l0_2.length : Int) x30_2 a0_0 a0_1 l0_2 a1_0 a1_1 l1_2 = some r) ∧ Aside0 (kq ≤ kj2) ∧ Aside0 (w'.heap[gb343]? = some (.cells #[.bool a0_0, .bool a0_1, (.slice A0_2 l0_2.length c0_2)] 61 (0, 0))) ∧ Aside0 (w'.heap[gb344]? = some (.cells #[.bool a1_0, .bool a1_1, (.slice A1_2 l1_2.length c1_2)] 61 (0, 0))) ∧ Aside0 (Below w.heap.size w w'))
    case atStart => exact ⟨(0), eqs, H', ⟨Nat.le_refl _⟩, ⟨bkq BK343⟩, ⟨bkq BK344⟩, ⟨bel⟩⟩
    case round =>
     clear H'; (try clear c1); (try clear c2); (try clear p2 p2); (try clear c6); (try clear c6b0); (try clear c6b1); (try clear c6b2); (try clear c7); (try clear c10); (try clear c10b0); (try clear c10b1); (try clear c10b2); (try clear c11); (try clear c14); (try clear c17); (try clear c18); (try clear hcz12); (try clear hcz13); (try clear hcz15); (try clear hcz16); (try clear hcz19); (try clear hcz8); (try clear hcz9); obtain ⟨x30_2, rfl, HA, HK2, BK343, BK344, HB⟩ := hrel
     cases gk with
     | zero => exact absurd HA.out (by simp [lift_Same.l0])
     | succ k2 =>
      have H := HA.out; clear HA; simp only [lift_Same.l0] at H; by_cases c20 : x30_2 < (l0_2.length : Int)
      ·rw [if_pos c20] at H
       have c20b0 := decide_eq_true c20; clear c20; by_cases c21 : 0 ≤ x30_2
       ·rw [if_pos c21] at H
        have c21b0 := decide_eq_true c21; clear c21; by_cases c22 : x30_2 < (l0_2.length : Int)
        ·rw [if_pos c22] at H
         have c22b0 := decide_eq_true c22; clear c22; by_cases c23 : x30_2 < (l1_2.length : Int)
         ·rw [if_pos c23] at H
          have c23b0 := decide_eq_true c23; clear c23; by_cases c24 : (rd l0_2 x30_2) = (rd l1_2 x30_2)
          ·rw [if_pos c24] at H
           have c24b0 : ((rd l0_2 x30_2) == (rd l1_2 x30_2)) = true := beq_iff_eq.mpr c24; have c24b1 : ((rd l0_2 x30_2) != (rd l1_2 x30_2)) = false := bne_eq_false_iff_eq.mpr c24; clear c24; have H' := A_ H; clear H; have hnb25 := NB343_344.out; have hnc25 := NB344_343.out; have hcz26 := bc3 BK343; have p345 : 0 ≤ (x30_2 : Int) := odt; have q345 : x30_2 < (l0_2.length : Int) := odt; obtain ⟨ad345, e345, hx345_0⟩ := Kd.at_int HR0_2.out x30_2 p345 q345; cases e345; replace hx345_0 := hbc HB hx345_0; replace p345 := eq_true p345; replace q345 := eq_true q345; have hcz27 := bc3 BK344; have p346 : 0 ≤ (x30_2 : Int) := odt; have q346 : x30_2 < (l1_2.length : Int) := odt; obtain ⟨ad346, e346, hx346_0⟩ := Kd.at_int HR1_2.out x30_2 p346 q346; cases e346; replace hx346_0 := hbc HB hx346_0; replace p346 := eq_true p346; replace q346 := eq_true q346; go_wp2; (repeat (go_quiet (fail); try go_wp2)); go_roundg k2
           case measure => have := HJ2.out; have := HK2.out; omega
           case rel => exact ⟨(wrap64 (x30_2 + 1)), eqs, H', ⟨by have := HJ2.out; have := HK2.out; omega⟩, ⟨bkq BK343⟩, ⟨bkq BK344⟩, ⟨bel⟩⟩
          ·rw [if_neg c24] at H
           have c24b0 : ((rd l0_2 x30_2) == (rd l1_2 x30_2)) = false := beq_eq_false_iff_ne.mpr c24; have c24b1 : ((rd l0_2 x30_2) != (rd l1_2 x30_2)) = true := bne_iff_ne.mpr c24; obtain rfl := Option.some.inj H; have hnb28 := NB343_344.out; have hnc28 := NB344_343.out; have hcz29 := bc3 BK343; have p345 : 0 ≤ (x30_2 : Int) := odt; have q345 : x30_2 < (l0_2.length : Int) := odt; obtain ⟨ad345, e345, hx345_0⟩ := Kd.at_int HR0_2.out x30_2 p345 q345; cases e345; replace hx345_0 := hbc HB hx345_0; replace p345 := eq_true p345; replace q345 := eq_true q345; have hcz30 := bc3 BK344; have p346 : 0 ≤ (x30_2 : Int) := odt; have q346 : x30_2 < (l1_2.length : Int) := odt; obtain ⟨ad346, e346, hx346_0⟩ := Kd.at_int HR1_2.out x30_2 p346 q346; cases e346; replace hx346_0 := hbc HB hx346_0; replace p346 := eq_true p346; replace q346 := eq_true q346; go_wp2; (repeat (go_quiet (fail); try go_wp2)); go_ret; exact ⟨eqd, bel⟩
         ·rw [if_neg c23] at H
          exact absurd H (by simp)
        ·rw [if_neg c22] at H
         exact absurd H (by simp)
       ·rw [if_neg c21] at H
        exact absurd H (by simp)
      ·rw [if_neg c20] at H
       have c20b0 := decide_eq_false c20; clear c20; obtain rfl := Option.some.inj H; go_wp2; (repeat (go_quiet (fail); try go_wp2)); go_ret; exact ⟨eqd, bel⟩
end Go.Proofs.Ytcagkdgpoijkoaa.PLf
end
