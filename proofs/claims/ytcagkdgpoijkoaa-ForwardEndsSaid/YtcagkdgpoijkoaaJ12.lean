/- Texts of this work, joined: LiE, Open, OpenK. -/
import Derived.Test.YtcagkdgpoijkoaaJ10
import Derived.Test.YtcagkdgpoijkoaaPLmx37
import Derived.ProofKit
import Derived.SizedLaws
import Derived.Deep.Slices
import Derived.Test.YtcagkdgpoijkoaaMq
import Derived.Test.YtcagkdgpoijkoaaRows
import Derived.Test.YtcagkdgpoijkoaaWWords
import Derived.Deep.CondSized
section
namespace Go.Proofs.Ytcagkdgpoijkoaa.LiE
open Go.RowKit Go.Proofs.Ytcagkdgpoijkoaa.PLm Go.Proofs.YtcagkdgpoijkoaaW.PrintWords Go.Proofs.YtcagkdgpoijkoaaW.PrintLast Go.Proofs.YtcagkdgpoijkoaaW.PrintMore Go.Proofs.Ytcagkdgpoijkoaa.LiC Go.Proofs.Ytcagkdgpoijkoaa.LiN
open Go.Proofs.Ytcagkdgpoijkoaa.FwP Go.Proofs.Ytcagkdgpoijkoaa.FwQ
set_option linter.unusedVariables false
set_option linter.unusedSimpArgs false
set_option linter.all false
def cg (a b : Int) : Prop := (a - b) % 18446744073709551616 = 0
theorem cg_wrap (a : Int) : cg (wrap64 a) a := by unfold cg wrap64; omega
theorem mxmn (y : Int) : 0 ≤ mx 0 (mn y 15) ∧ mx 0 (mn y 15) ≤ 15 := by
  unfold mx mn
  repeat' split
  all_goals omega
theorem mxmn2 (y : Int) : 1 ≤ mx 1 (mn y 1000) ∧ mx 1 (mn y 1000) ≤ 1000 := by
  unfold mx mn
  repeat' split
  all_goals omega
theorem do_l_val (cs : List CL) (N p0 p1 : Int) : ∀ (k : Nat) (i : Int) (b : Bool) (x1 x2 x3 : Int) (r : Bool × Int × Int × Int), clause_Do.l0 k cs N i p0 p1 b x1 x2 x3 = some r → r.1 = true → b = true ∧ ∃ d, 0 ≤ d ∧ d ≤ 15 ∧ cg r.2.2.1 (x2 + d)
  | 0, _, _, _, _, _, r, h, _ => by rw [clause_Do.l0] at h; cases h
  | k + 1, i, b, x1, x2, x3, r, h, hr => by
    rw [clause_Do.l0] at h
    have hm := mxmn (rd_T116 cs i).f7
    split at h
    · split at h
      · split at h
        · obtain ⟨q, _, h⟩ := Option.bind_eq_some_iff.1 h
          split at h
          · split at h
            · obtain rfl := Option.some.inj h
              cases hr
            · split at h
              · split at h
                · obtain rfl := Option.some.inj h
                  exact ⟨hr, _, hm.1, hm.2, cg_wrap _⟩
                · obtain rfl := Option.some.inj h
                  exact ⟨hr, _, hm.1, hm.2, cg_wrap _⟩
              · obtain rfl := Option.some.inj h
                exact ⟨hr, _, hm.1, hm.2, cg_wrap _⟩
          · exact do_l_val cs N p0 p1 k _ _ _ _ _ r h hr
        · cases h
      · cases h
    · obtain rfl := Option.some.inj h
      exact ⟨hr, 0, by omega, by omega, by unfold cg; simp⟩
theorem do_val (k : Nat) (cs : List CL) (p0 p1 : Int) (b : Bool) (x1 x2 x3 : Int) (r : Bool × Int × Int × Int) (h : clause_Do.f k cs p0 p1 b x1 x2 x3 = some r) (hr : r.1 = true) : b = true ∧ ∃ d, 0 ≤ d ∧ d ≤ 15 ∧ cg r.2.2.1 (x2 + d) := by
  unfold clause_Do.f at h
  split at h
  · exact do_l_val cs _ p0 p1 k _ _ _ _ _ r h hr
  · obtain rfl := Option.some.inj h
    cases hr
theorem take_val (k : Nat) (a0 a1 : Int) (x y : List CL) (b : Bool) (x1 x2 x3 : Int) (r : Bool × Int × Int × Int) (h : edge_Take.f k a0 a1 x y b x1 x2 x3 = some r) (hr : r.1 = true) : b = true ∧ ∃ d, 1 ≤ d ∧ d ≤ 1030 ∧ cg r.2.2.1 (x2 + d) := by
  unfold edge_Take.f at h
  obtain ⟨s, hs, h⟩ := Option.bind_eq_some_iff.1 h
  split at h
  · rename_i hs1
    obtain ⟨t, ht, h⟩ := Option.bind_eq_some_iff.1 h
    obtain rfl := Option.some.inj h
    obtain ⟨hb, d1, h1, h2, h3⟩ := do_val _ _ _ _ _ _ _ _ _ hs hs1
    obtain ⟨-, d2, h4, h5, h6⟩ := do_val _ _ _ _ _ _ _ _ _ ht hr
    have hm := mxmn2 a1
    have hw := cg_wrap (s.2.2.1 + mx 1 (mn a1 1000))
    refine ⟨hb, d1 + mx 1 (mn a1 1000) + d2, by omega, by omega, ?_⟩
    show cg t.2.2.1 _
    unfold cg at *
    omega
  · obtain rfl := Option.some.inj h
    cases hr
theorem best_l_val (L : List AT) (N : Int) : ∀ (k : Nat) (i : Int) (b : Bool) (x1 x2 x3 : Int) (r : Bool × Int × Int × Int), attr_Best.l0 k L N i b x1 x2 x3 = some r → r = (b, x1, x2, x3) ∨ ∃ a ∈ L, r = (a.f0, a.f1, a.f2, a.f3)
  | 0, _, _, _, _, _, r, h => by rw [attr_Best.l0] at h; cases h
  | k + 1, i, b, x1, x2, x3, r, h => by
    rw [attr_Best.l0] at h
    split at h
    · split at h
      · split at h
        · rename_i h0 h1
          obtain ⟨q, _, h⟩ := Option.bind_eq_some_iff.1 h
          split at h
          · rcases best_l_val L N k _ _ _ _ _ r h with e | e
            · refine .inr ⟨_, ?_, e⟩
              unfold rd_T41
              rw [List.getD_eq_getElem?_getD, List.getElem?_eq_getElem (show i.toNat < L.length by omega)]
              exact List.getElem_mem _
            · exact .inr e
          · exact best_l_val L N k _ _ _ _ _ r h
        · cases h
      · cases h
    · exact .inl (Option.some.inj h).symm
def ofr (L : List AT) (e : ED) (a : AT) : Prop := a.f0 = true → 0 ≤ e.f0 ∧ ∃ y, L[e.f0.toNat]? = some y ∧ y.f0 = true ∧ ∃ d, 1 ≤ d ∧ d ≤ 1030 ∧ cg a.f2 (y.f2 + d)
theorem offers_l_val (L : List AT) (es : List ED) (hn : es.length ≤ 1000000) : ∀ (k i : Nat) (acc R : List AT), i ≤ es.length → acc.length = i → stable_Offers.l0 k L acc es (es.length : Int) (i : Int) = some R → (∀ (j : Nat) e a, es[j]? = some e → acc[j]? = some a → ofr L e a) → R.length = es.length ∧ ∀ (j : Nat) e a, es[j]? = some e → R[j]? = some a → ofr L e a
  | 0, i, acc, R, _, _, h, _ => by rw [stable_Offers.l0] at h; cases h
  | k + 1, i, acc, R, hi, ha, h, hacc => by
    rw [stable_Offers.l0] at h
    split at h
    · rename_i hlt
      have hil : i < es.length := by omega
      have hrd : rd_T51 es (i : Int) = es[i] := by
        unfold rd_T51
        rw [List.getD_eq_getElem?_getD, Int.toNat_natCast, List.getElem?_eq_getElem hil]
        rfl
      rw [hrd] at h
      have step : ∀ x : AT, ofr L es[i] x → ∀ (j : Nat) e a, es[j]? = some e → (acc ++ [x])[j]? = some a → ofr L e a := by
        intro x hx j e a he hja
        rcases Nat.lt_or_ge j acc.length with h1 | h1
        · rw [List.getElem?_append_left h1] at hja
          exact hacc j e a he hja
        · rw [List.getElem?_append_right h1] at hja
          have hj : j - acc.length = 0 := by
            rcases Nat.eq_zero_or_pos (j - acc.length) with h2 | h2
            · exact h2
            · rw [List.getElem?_eq_none (by simp; omega)] at hja; cases hja
          rw [hj] at hja
          obtain rfl := Option.some.inj hja
          have hji : j = i := by omega
          subst hji
          rw [List.getElem?_eq_getElem hil] at he
          obtain rfl := Option.some.inj he
          exact hx
      have hnone : ofr L es[i] ⟨false, 0, 0, 0⟩ := fun h => by cases h
      rw [if_pos (by omega), w1 (by omega)] at h
      split at h
      · rename_i h0
        split at h
        · rename_i h1
          obtain ⟨r, ht, h⟩ := Option.bind_eq_some_iff.1 h
          split at h
          · refine offers_l_val L es hn k (i + 1) _ R (by omega) (by simp [ha]) h (step _ ?_)
            intro hr
            obtain ⟨hb, d, h2, h3, h4⟩ := take_val _ _ _ _ _ _ _ _ _ r ht hr
            have hLl : (es[i].f0).toNat < L.length := by omega
            refine ⟨h0, L[(es[i].f0).toNat], List.getElem?_eq_getElem hLl, ?_, d, h2, h3, ?_⟩
            · have e : rd_T41 L es[i].f0 = L[(es[i].f0).toNat] := by
                unfold rd_T41
                rw [List.getD_eq_getElem?_getD, List.getElem?_eq_getElem hLl]
                rfl
              rw [e] at hb
              exact hb
            · have e : rd_T41 L es[i].f0 = L[(es[i].f0).toNat] := by
                unfold rd_T41
                rw [List.getD_eq_getElem?_getD, List.getElem?_eq_getElem hLl]
                rfl
              rw [e] at h4
              exact h4
          · cases h
        · split at h
          · exact offers_l_val L es hn k (i + 1) _ R (by omega) (by simp [ha]) h (step _ hnone)
          · cases h
      · split at h
        · exact offers_l_val L es hn k (i + 1) _ R (by omega) (by simp [ha]) h (step _ hnone)
        · cases h
    · rename_i hlt
      obtain rfl := Option.some.inj h
      exact ⟨by omega, hacc⟩
theorem offers_val (k : Nat) (o : List Bool) (s : List Int) (E : List (List ED)) (hN : NetOk o s E) (L : List AT) (j : Nat) (R : List AT) (h : stable_Offers.f k o s E L (j : Int) = some R) : ∀ (i : Nat) e a, (E.getD j [])[i]? = some e → R[i]? = some a → ofr L e a := by
  unfold stable_Offers.f at h
  rw [if_neg (by omega)] at h
  cases k with
  | zero => rw [stable_Offers.j0] at h; cases h
  | succ k =>
    rw [stable_Offers.j0] at h
    split at h
    · obtain rfl := Option.some.inj h
      intro i e a _ ha
      rw [List.getElem?_nil] at ha
      cases ha
    · rename_i hc
      have hj : j < E.length := by simpa using hc
      rw [if_pos (by omega), if_pos (by omega)] at h
      have e1 : E.getD j [] = E[j] := by rw [List.getD_eq_getElem?_getD, List.getElem?_eq_getElem hj]; rfl
      have e2 : rd_L23 E (j : Int) = E[j] := e1
      rw [e2] at h
      rw [e1]
      have hm := hN.e E[j] (List.getElem_mem hj)
      exact (offers_l_val L E[j] hm.1 k 0 [] R (Nat.zero_le _) rfl h (fun j e a _ ha => by rw [List.getElem?_nil] at ha; cases ha)).2
section
variable (g : List (List Int)) (ok : Nat → Bool) (c : Nat → Int) (o : List Bool) (hl : o.length = g.length) (hn : g.length ≤ 1000000)
  (hA : ∀ (k : Nat) row x, g[k]? = some row → x ∈ row → ok k = true ∧ 0 ≤ x ∧ x.toNat < g.length ∧ ok x.toNat = true ∧ ∃ d, 1 ≤ d ∧ d ≤ 1030 ∧ cg (c k) (c x.toNat + d))
  (hB : ∀ k : Nat, k < g.length → ok k = true → o[k]? = some true ∨ ∃ row x, g[k]? = some row ∧ x ∈ row)
  (hC : ∀ k : Nat, o[k]? = some true → ok k = true)
include hA in
theorem path : ∀ (m k : Nat), (itB g m (List.replicate g.length true))[k]? = some true → ∃ p : List Nat, p.length = m + 1 ∧ p[0]? = some k ∧ (∀ v ∈ p, v < g.length) ∧ ∀ (i j a b : Nat), i < j → p[i]? = some a → p[j]? = some b → ∃ D : Int, (j : Int) - i ≤ D ∧ D ≤ 1030 * ((j : Int) - i) ∧ cg (c a) (c b + D)
  | 0, k, h => by
    have hk : k < g.length := by
      rcases Nat.lt_or_ge k g.length with h1 | h1
      · exact h1
      · have h' : (List.replicate g.length true)[k]? = some true := h
        rw [List.getElem?_eq_none (by simpa using h1)] at h'; cases h'
    refine ⟨[k], rfl, rfl, fun v hv => by rw [List.mem_singleton.1 hv]; exact hk, fun i j a b hij ha hb => ?_⟩
    have : j < [k].length := (List.getElem?_eq_some_iff.1 hb).1
    simp at this
    omega
  | m + 1, k, h => by
    rw [itB, stepB_get] at h
    obtain ⟨row, hr, x, hx, h0, h1⟩ := h
    obtain ⟨p, hp1, hp2, hp3, hp4⟩ := path m x.toNat h1
    obtain ⟨-, -, -, -, d, hd1, hd2, hd3⟩ := hA k row x hr hx
    have hk : k < g.length := (List.getElem?_eq_some_iff.1 hr).1
    refine ⟨k :: p, by simp [hp1], rfl, fun v hv => ?_, fun i j a b hij ha hb => ?_⟩
    · rcases List.mem_cons.1 hv with rfl | hv
      · exact hk
      · exact hp3 v hv
    · obtain ⟨j, rfl⟩ : ∃ q, j = q + 1 := ⟨j - 1, by omega⟩
      rw [List.getElem?_cons_succ] at hb
      cases i with
      | zero =>
        have ha : some k = some a := ha
        obtain rfl := Option.some.inj ha
        by_cases hj : j = 0
        · subst hj
          rw [hp2] at hb
          obtain rfl := Option.some.inj hb
          exact ⟨d, by omega, by omega, hd3⟩
        · obtain ⟨D, h2, h3, h4⟩ := hp4 0 j _ b (by omega) hp2 hb
          exact ⟨d + D, by omega, by omega, by unfold cg at *; omega⟩
      | succ i =>
        rw [List.getElem?_cons_succ] at ha
        obtain ⟨D, h2, h3, h4⟩ := hp4 i j a b (by omega) ha hb
        exact ⟨D, by omega, by omega, h4⟩
theorem few : ∀ (n : Nat) (p : List Nat), p.Nodup → (∀ v ∈ p, v < n) → p.length ≤ n
  | 0, p, _, h => by
    cases p with
    | nil => exact Nat.le_refl _
    | cons v p => exact absurd (h v (.head _)) (by omega)
  | n + 1, p, hp, h => by
    by_cases hm : n ∈ p
    · have h1 := few n (p.erase n) (hp.erase n) (fun v hv => by
        have h2 := h v (List.mem_of_mem_erase hv)
        have h3 : v ≠ n := fun e => by
          subst e
          exact (List.Nodup.mem_erase_iff hp).1 hv |>.1 rfl
        omega)
      rw [List.length_erase_of_mem hm] at h1
      omega
    · have h1 := few n p hp (fun v hv => by
        have h2 := h v hv
        have h3 : v ≠ n := fun e => hm (e ▸ hv)
        omega)
      omega
include hn hA in
theorem no_loop (k : Nat) : (loopsB g)[k]? ≠ some true := by
  intro h
  obtain ⟨p, h1, h2, h3, h4⟩ := path g ok c hA g.length k h
  have hnd : p.Nodup := by
    rw [List.Nodup, List.pairwise_iff_getElem]
    intro i j hi hj hij e
    obtain ⟨D, q1, q2, q3⟩ := h4 i j p[i] p[j] hij (List.getElem?_eq_getElem hi) (List.getElem?_eq_getElem hj)
    rw [e] at q3
    unfold cg at q3
    omega
  have := few g.length p hnd h3
  omega
include hl hn hA hB hC in
theorem ends (k : Nat) (hk : k < g.length) (P : Bool) (hP : (loopsB g)[k]? = some P) (R : Bool) (hR : (reachB g o)[k]? = some R) : P = false ∧ R = ok k := by
  refine ⟨?_, ?_⟩
  · cases P with
    | false => rfl
    | true => exact absurd hP (no_loop g ok c hn hA k)
  · have up : ∀ (i k : Nat), (itB g i (pad g.length o))[k]? = some true → ok k = true := by
      intro i
      cases i with
      | zero =>
        intro k h
        have h : (pad g.length o)[k]? = some true := h
        have hk : k < g.length := by
          rcases Nat.lt_or_ge k g.length with h1 | h1
          · exact h1
          · rw [List.getElem?_eq_none (by rw [pad_len]; exact h1)] at h; cases h
        rw [pad_get _ _ _ hk] at h
        have h := Option.some.inj h
        rw [Bool.and_eq_true] at h
        refine hC k ?_
        rw [List.getElem?_eq_getElem (by omega)]
        have h2 := h.2
        rw [List.getD_eq_getElem?_getD, List.getElem?_eq_getElem (by omega)] at h2
        exact congrArg some h2
      | succ i =>
        intro k h
        rw [itB, stepB_get] at h
        obtain ⟨row, hr, x, hx, -, -⟩ := h
        exact (hA k row x hr hx).1
    have down : ∀ (m k : Nat), k < g.length → ok k = true → (∃ i, (itB g i (pad g.length o))[k]? = some true) ∨ (itB g m (List.replicate g.length true))[k]? = some true := by
      intro m
      induction m with
      | zero =>
        intro k hk _
        right
        show (List.replicate g.length true)[k]? = some true
        rw [List.getElem?_replicate, if_pos hk]
      | succ m ih =>
        intro k hk h
        rcases hB k hk h with h1 | ⟨row, x, hr, hx⟩
        · left
          refine ⟨0, ?_⟩
          show (pad g.length o)[k]? = some true
          rw [pad_get _ _ _ hk, List.getD_eq_getElem?_getD, h1]
          simp
          omega
        · obtain ⟨-, q0, q1, q2, -⟩ := hA k row x hr hx
          rcases ih x.toNat q1 q2 with ⟨i, h2⟩ | h2
          · left
            exact ⟨i + 1, by rw [itB, stepB_get]; exact ⟨row, hr, x, hx, q0, h2⟩⟩
          · right
            rw [itB, stepB_get]
            exact ⟨row, hr, x, hx, q0, h2⟩
    cases hok : ok k with
    | true =>
      rcases down g.length k hk hok with ⟨i, h⟩ | h
      · have := it_reach_all (pad_len g.length o) i k h
        have hR' : (reachIt g g.length (pad g.length o))[k]? = some R := hR
        rw [this] at hR'
        exact (Option.some.inj hR').symm
      · exact absurd h (no_loop g ok c hn hA k)
    | false =>
      cases R with
      | false => rfl
      | true =>
        obtain ⟨i, -, h⟩ := reach_it (pad_len g.length o) g.length k hR
        rw [up i k h] at hok
        cases hok
end
theorem same_val (a b : AT) (h : attr_Same.f a.f0 a.f1 a.f2 a.f3 b.f0 b.f1 b.f2 b.f3 = some true) : (a.f0 = true → a = b) ∧ (b.f0 = true → a = b) := by
  rw [forward_Of.same] at h
  have h := Option.some.inj h
  unfold Go.Proofs.Ytcagkdgpoijkoaa.OfP.sameB toAt at h
  obtain ⟨a0, a1, a2, a3⟩ := a
  obtain ⟨b0, b1, b2, b3⟩ := b
  simp only [Bool.or_eq_true, Bool.and_eq_true, Bool.not_eq_true', decide_eq_true_eq, Go.Proofs.Ytcagkdgpoijkoaa.OfP.At.mk.injEq] at h
  rcases h with ⟨h1, h2⟩ | ⟨rfl, rfl, rfl, rfl⟩
  · exact ⟨fun (h : a0 = true) => absurd (h.symm.trans h1) (by simp), fun (h : b0 = true) => absurd (h.symm.trans h2) (by simp)⟩
  · exact ⟨fun _ => rfl, fun _ => rfl⟩
theorem of_row (k : Nat) (o : List Bool) (s : List Int) (E : List (List ED)) (L : List AT) (G : List (List Int)) (h : forward_Of.f k o s E L = some G) (hs : ∀ x ∈ s, x = -1) (j : Nat) (a : AT) (b : Bool) (ha : L[j]? = some a) (hb : o[j]? = some b) : ∃ row R, G[j]? = some row ∧ stable_Offers.f k o s E L (j : Int) = some R ∧ ∀ x, x ∈ row ↔ b = false ∧ a.f0 = true ∧ ∃ (i : Nat) (e : ED) (y : AT), R[i]? = some y ∧ (E.getD j [])[i]? = some e ∧ y = a ∧ e.f0 = x := by
  unfold forward_Of.f at h
  split at h
  · rename_i hok
    have hlt := (List.getElem?_eq_some_iff.1 hb).1
    obtain ⟨R, hR, -, -⟩ := forward_Of.ok_at hok hlt
    obtain rfl := Option.some.inj h
    refine ⟨Go.Proofs.Ytcagkdgpoijkoaa.OfP.ofRow o s (E.map (·.map toEd)) (L.map toAt) (fun j => (forward_Of.offs k o s E L j).map toAt) j, R, ?_, hR, ?_⟩
    · unfold Go.Proofs.Ytcagkdgpoijkoaa.OfP.ofB Go.Proofs.Ytcagkdgpoijkoaa.OfP.ofN
      rw [List.getElem?_map, List.getElem?_range hlt]
      simp only [Option.map_some, if_pos hlt]
    · have hw : Go.Proofs.Ytcagkdgpoijkoaa.OfP.way o s (L.map toAt) j = if b = true then .none else if a.f0 = true then .all (toAt a) else .none := by
        unfold Go.Proofs.Ytcagkdgpoijkoaa.OfP.way
        rw [List.getD_eq_getElem?_getD, hb, List.getElem?_map, ha]
        cases hsj : s[j]? with
        | none => rfl
        | some x =>
          have := hs x (List.mem_of_getElem? hsj)
          subst this
          rfl
      unfold Go.Proofs.Ytcagkdgpoijkoaa.OfP.ofRow
      rw [hw]
      intro x
      cases b with
      | true => simp
      | false =>
        cases hf : a.f0 with
        | false => simp
        | true =>
          have ho : forward_Of.offs k o s E L j = R := by unfold forward_Of.offs; rw [hR]; rfl
          have he : (E.map (·.map toEd)).getD j [] = (E.getD j []).map toEd := by
            simp only [List.getD_eq_getElem?_getD, List.getElem?_map]
            cases E[j]? <;> rfl
          simp only [Bool.false_eq_true, if_false, if_true, List.mem_mergeSort, true_and]
          unfold Go.Proofs.Ytcagkdgpoijkoaa.OfP.pick
          rw [ho, he, List.mem_map]
          have hS : ∀ y : AT, Go.Proofs.Ytcagkdgpoijkoaa.OfP.sameB (toAt y) (toAt a) = true ↔ y = a := by
            intro y
            constructor
            · intro h
              exact (same_val y a ((forward_Of.same y a).trans (congrArg some h))).2 hf
            · rintro rfl
              unfold Go.Proofs.Ytcagkdgpoijkoaa.OfP.sameB
              simp
          constructor
          · rintro ⟨p, hp, rfl⟩
            obtain ⟨hp1, hp2⟩ := List.mem_filter.1 hp
            obtain ⟨i, hi⟩ := List.mem_iff_getElem?.1 hp1
            rw [List.getElem?_zip_eq_some, List.getElem?_map, List.getElem?_map] at hi
            obtain ⟨h1, h2⟩ := hi
            obtain ⟨y, hy, hy2⟩ := Option.map_eq_some_iff.1 h1
            obtain ⟨e, he, he2⟩ := Option.map_eq_some_iff.1 h2
            refine ⟨i, e, y, hy, he, (hS y).1 (by rw [hy2]; exact hp2), ?_⟩
            rw [← he2]
            rfl
          · rintro ⟨i, e, y, hy, he, rfl, rfl⟩
            refine ⟨(toAt y, toEd e), List.mem_filter.2 ⟨List.mem_iff_getElem?.2 ⟨i, ?_⟩, (hS y).2 rfl⟩, rfl⟩
            rw [List.getElem?_zip_eq_some, List.getElem?_map, List.getElem?_map, hy, he]
            exact ⟨rfl, rfl⟩
  · cases h
def Stab (o : List Bool) (s : List Int) (E : List (List ED)) (L : List AT) : Prop := L.length = o.length ∧ ∀ (j : Nat) a, L[j]? = some a → ∃ k c, stable_Choice.f k o s E L (j : Int) = some c ∧ attr_Same.f a.f0 a.f1 a.f2 a.f3 c.1 c.2.1 c.2.2.1 c.2.2.2 = some true
theorem choice_val (o : List Bool) (s : List Int) (E : List (List ED)) (hN : NetOk o s E) (hs : ∀ x ∈ s, x = -1) (L : List AT) (j : Nat) (a : AT) (ha : L[j]? = some a) (b : Bool) (hb : o[j]? = some b) (k : Nat) (c : Bool × Int × Int × Int) (h : stable_Choice.f k o s E L (j : Int) = some c) (hS : attr_Same.f a.f0 a.f1 a.f2 a.f3 c.1 c.2.1 c.2.2.1 c.2.2.2 = some true) : (b = true → a.f0 = true) ∧ (b = false → a.f0 = true → ∃ k R, stable_Offers.f k o s E L (j : Int) = some R ∧ ∃ i : Nat, R[i]? = some a) := by
  have hSv := same_val a ⟨c.1, c.2.1, c.2.2.1, c.2.2.2⟩ hS
  have hlt := (List.getElem?_eq_some_iff.1 hb).1
  have hfix : stable_Fixed.f o s E (j : Int) = some b := by
    unfold stable_Fixed.f
    have hrd : rdOf false o (j : Int) = b := by
      unfold rdOf
      rw [List.getD_eq_getElem?_getD, Int.toNat_natCast, hb]
      rfl
    rw [if_pos (by omega), if_pos (by omega), if_pos (by omega), hrd]
    cases b with
    | true => rfl
    | false =>
      rw [if_neg (by simp)]
      split
      · rename_i hj
        have hj' : j < s.length := by omega
        have hv : rd s (j : Int) = -1 := by
          unfold rd
          rw [List.getD_eq_getElem?_getD, Int.toNat_natCast, List.getElem?_eq_getElem hj']
          exact hs _ (List.getElem_mem hj')
        rw [hv]
        rfl
      · rfl
  unfold stable_Choice.f at h
  rw [hfix, Option.bind_some] at h
  cases b with
  | true =>
    refine ⟨fun _ => ?_, fun h => by cases h⟩
    rw [if_pos rfl] at h
    unfold attr_Origin.f at h
    obtain rfl := Option.some.inj h
    have := hSv.2 rfl
    rw [this]
  | false =>
    refine ⟨fun h => (by cases h), fun _ hok => ?_⟩
    rw [if_neg (by simp)] at h
    obtain ⟨R, hR, h⟩ := Option.bind_eq_some_iff.1 h
    obtain ⟨r, hr, h⟩ := Option.bind_eq_some_iff.1 h
    obtain rfl := Option.some.inj h
    have e := hSv.1 hok
    refine ⟨k, R, hR, ?_⟩
    have hr' : attr_Best.l0 k R (R.length : Int) 0 false 0 0 0 = some r := hr
    rcases best_l_val R _ _ _ _ _ _ _ _ hr' with e2 | ⟨y, hy, e2⟩
    · rw [e, e2] at hok
      cases hok
    · obtain ⟨i, hi⟩ := List.mem_iff_getElem?.1 hy
      refine ⟨i, ?_⟩
      rw [hi, e, e2]
theorem node (o : List Bool) (s : List Int) (E : List (List ED)) (hN : NetOk o s E) (hs : ∀ x ∈ s, x = -1) (L : List AT) (hSt : Stab o s E L) (k : Nat) (G : List (List Int)) (hG : forward_Of.f k o s E L = some G) (hl : G.length = o.length) (j : Nat) (a : AT) (ha : L[j]? = some a) (P : Bool) (hP : (loopsB G)[j]? = some P) (R : Bool) (hR : (reachB G o)[j]? = some R) : P = false ∧ R = a.f0 := by
  have hol := hN.l
  have hLl := hSt.1
  let ok : Nat → Bool := fun i => (L.getD i ⟨false, 0, 0, 0⟩).f0
  let c : Nat → Int := fun i => (L.getD i ⟨false, 0, 0, 0⟩).f2
  have okv : ∀ (i : Nat) y, L[i]? = some y → ok i = y.f0 ∧ c i = y.f2 := by
    intro i y hy
    show (L.getD i ⟨false, 0, 0, 0⟩).f0 = y.f0 ∧ (L.getD i ⟨false, 0, 0, 0⟩).f2 = y.f2
    rw [List.getD_eq_getElem?_getD, hy]
    exact ⟨rfl, rfl⟩
  have hj := (List.getElem?_eq_some_iff.1 ha).1
  have hfin := ends G ok c o hl.symm (by omega) ?_ ?_ ?_ j (by omega) P hP R hR
  · rw [(okv j a ha).1] at hfin
    exact hfin
  · intro i row x hr hx
    have hi : i < G.length := (List.getElem?_eq_some_iff.1 hr).1
    have hLi : L[i]? = some L[i] := List.getElem?_eq_getElem (by omega)
    have hoi : o[i]? = some o[i] := List.getElem?_eq_getElem (by omega)
    obtain ⟨row', R', hr', hR', hiff⟩ := of_row k o s E L G hG hs i _ _ hLi hoi
    rw [hr] at hr'
    obtain rfl := Option.some.inj hr'
    obtain ⟨-, hok, q, e, y, hy, he, rfl, rfl⟩ := (hiff x).1 hx
    obtain ⟨h0, z, hz, hz0, d, hd1, hd2, hd3⟩ := offers_val k o s E hN L i R' hR' q e _ he hy hok
    have hzl := (List.getElem?_eq_some_iff.1 hz).1
    refine ⟨by rw [(okv i _ hLi).1]; exact hok, h0, by omega, by rw [(okv _ _ hz).1]; exact hz0, d, hd1, hd2, ?_⟩
    rw [(okv i _ hLi).2, (okv _ _ hz).2]
    exact hd3
  · intro i hi hoki
    have hLi : L[i]? = some L[i] := List.getElem?_eq_getElem (by omega)
    have hoi : o[i]? = some o[i] := List.getElem?_eq_getElem (by omega)
    rw [(okv i _ hLi).1] at hoki
    obtain ⟨k2, c2, hc2, hS2⟩ := hSt.2 i _ hLi
    obtain ⟨q1, q2⟩ := choice_val o s E hN hs L i _ hLi _ hoi k2 c2 hc2 hS2
    cases hb : o[i] with
    | true => left; rw [hoi, hb]
    | false =>
      right
      obtain ⟨k3, R3, hR3, p, hp⟩ := q2 hb hoki
      obtain ⟨row, R', hr', hR', hiff⟩ := of_row k o s E L G hG hs i _ _ hLi hoi
      have h1 := up (F := fun k => stable_Offers.f k o s E L (i : Int)) (fun k => stable_Offers.mono _ _ _ _ _ k) (Nat.le_add_right k k3) hR'
      have h2 := up (F := fun k => stable_Offers.f k o s E L (i : Int)) (fun k => stable_Offers.mono _ _ _ _ _ k) (Nat.le_add_left k3 k) hR3
      rw [h1] at h2
      obtain rfl := Option.some.inj h2
      have hpl : p < (E.getD i []).length := by
        obtain ⟨k4, r4, h4, hl4⟩ := offers_ok o s E hN L i
        have h5 := up (F := fun k => stable_Offers.f k o s E L (i : Int)) (fun k => stable_Offers.mono _ _ _ _ _ k) (Nat.le_add_right k k4) hR'
        have h6 := up (F := fun k => stable_Offers.f k o s E L (i : Int)) (fun k => stable_Offers.mono _ _ _ _ _ k) (Nat.le_add_left k4 k) h4
        rw [h5] at h6
        obtain rfl := Option.some.inj h6
        have := (List.getElem?_eq_some_iff.1 hp).1
        omega
      exact ⟨row, _, hr', (hiff _).2 ⟨hb, hoki, p, _, _, hp, List.getElem?_eq_getElem hpl, rfl, rfl⟩⟩
  · intro i hi
    have hil := (List.getElem?_eq_some_iff.1 hi).1
    have hLi : L[i]? = some L[i] := List.getElem?_eq_getElem (by omega)
    obtain ⟨k2, c2, hc2, hS2⟩ := hSt.2 i _ hLi
    rw [(okv i _ hLi).1]
    exact (choice_val o s E hN hs L i _ hLi true hi k2 c2 hc2 hS2).1 rfl
theorem is_l (o : List Bool) (s : List Int) (E : List (List ED)) (hN : NetOk o s E) (L : List AT) (hL : L.length = o.length) : ∀ d i, i + d = L.length → ∃ K b, (∀ k, K ≤ k → stable_Is.l0 k L (L.length : Int) (i : Int) o s E = some b) ∧ (b = true → ∀ (j : Nat) a, i ≤ j → L[j]? = some a → ∃ k c, stable_Choice.f k o s E L (j : Int) = some c ∧ attr_Same.f a.f0 a.f1 a.f2 a.f3 c.1 c.2.1 c.2.2.1 c.2.2.2 = some true)
  | 0, i, h => ⟨1, true, fun k hk => by
      obtain ⟨k, rfl⟩ : ∃ q, k = q + 1 := ⟨k - 1, by omega⟩
      rw [stable_Is.l0, if_neg (by omega)], fun _ j a hij ha => by
      have := (List.getElem?_eq_some_iff.1 ha).1
      omega⟩
  | d + 1, i, h => by
    have hol := hN.l
    have hLi : L[i]? = some L[i] := List.getElem?_eq_getElem (by omega)
    obtain ⟨K, b, hb, hbv⟩ := is_l o s E hN L hL d (i + 1) (by omega)
    obtain ⟨K2, c, hc⟩ := choice_ok o s E hN L i
    have hrd : rd_T41 L (i : Int) = L[i] := by
      unfold rd_T41
      rw [List.getD_eq_getElem?_getD, Int.toNat_natCast, hLi]
      rfl
    obtain ⟨q, hq⟩ : ∃ q, attr_Same.f L[i].f0 L[i].f1 L[i].f2 L[i].f3 c.1 c.2.1 c.2.2.1 c.2.2.2 = some q := ⟨_, forward_Of.same L[i] ⟨c.1, c.2.1, c.2.2.1, c.2.2.2⟩⟩
    refine ⟨K + K2 + 1, q && b, fun k hk => ?_, fun hqb j a hij ha => ?_⟩
    · obtain ⟨k, rfl⟩ : ∃ q, k = q + 1 := ⟨k - 1, by omega⟩
      rw [stable_Is.l0, if_pos (by omega), if_pos (by omega), if_pos (by omega), up (F := fun k => stable_Choice.f k o s E L (i : Int)) (fun k => stable_Choice.mono _ _ _ _ _ k) (by omega : K2 ≤ k) hc, Option.bind_some, hrd, hq, Option.bind_some, w1 (by omega), hb k (by omega)]
      cases q <;> rfl
    · rw [Bool.and_eq_true] at hqb
      by_cases hji : j = i
      · subst hji
        rw [hLi] at ha
        obtain rfl := Option.some.inj ha
        exact ⟨K2, c, hc, by rw [hq, hqb.1]⟩
      · exact hbv hqb.2 j a (by omega) ha
theorem is_at (o : List Bool) (s : List Int) (E : List (List ED)) (hN : NetOk o s E) (L : List AT) (hL : L.length = o.length) : ∃ K b, (∀ k, K ≤ k → stable_Is.f k o s E L = some b) ∧ (b = true → Stab o s E L) := by
  obtain ⟨K, b, h1, h2⟩ := is_l o s E hN L hL L.length 0 (by omega)
  refine ⟨K, b, fun k hk => ?_, fun hb => ⟨hL, fun j a ha => h2 hb j a (Nat.zero_le _) ha⟩⟩
  unfold stable_Is.f
  rw [if_pos (by omega)]
  exact h1 k hk
section
variable (o : List Bool) (s : List Int) (E : List (List ED)) (hN : NetOk o s E) (hs : ∀ x ∈ s, x = -1)
theorem l2_at (L : List AT) (R P : List Bool) (n : Nat) (hn : n ≤ 1000000) (hL : L.length = n) (hR : R.length = n) (hP : P.length = n) (hnode : ∀ (j : Nat) a r p, L[j]? = some a → R[j]? = some r → P[j]? = some p → p = false ∧ r = a.f0) : ∀ d i, i + d = n → ∃ k, maquettelaw21_ForwardEnds.l2 k L R P (n : Int) (i : Int) = some true
  | 0, i, h => ⟨1, by rw [maquettelaw21_ForwardEnds.l2, if_neg (by omega)]⟩
  | d + 1, i, h => by
    obtain ⟨k, hk⟩ := l2_at L R P n hn hL hR hP hnode d (i + 1) (by omega)
    have hLi : L[i]? = some L[i] := List.getElem?_eq_getElem (by omega)
    have hRi : R[i]? = some R[i] := List.getElem?_eq_getElem (by omega)
    have hPi : P[i]? = some P[i] := List.getElem?_eq_getElem (by omega)
    obtain ⟨q1, q2⟩ := hnode i _ _ _ hLi hRi hPi
    have e1 : rdOf false R (i : Int) = L[i].f0 := by
      unfold rdOf
      rw [List.getD_eq_getElem?_getD, Int.toNat_natCast, hRi, ← q2]
      rfl
    have e2 : rdOf false P (i : Int) = false := by
      unfold rdOf
      rw [List.getD_eq_getElem?_getD, Int.toNat_natCast, hPi, ← q1]
      rfl
    have e3 : rd_T41 L (i : Int) = L[i] := by
      unfold rd_T41
      rw [List.getD_eq_getElem?_getD, Int.toNat_natCast, hLi]
      rfl
    refine ⟨k + 1, ?_⟩
    rw [maquettelaw21_ForwardEnds.l2, if_pos (by omega), if_pos (by omega), if_pos (by omega), if_pos (by omega), e1, e3, if_neg (by simp), if_pos (by omega), e2, if_neg (by simp), w1 (by omega)]
    exact hk
include hN hs in
theorem j1_at (L : List AT) (r : Int) (hL : L.length = o.length) : ∃ K, ∀ k, K ≤ k → maquettelaw21_ForwardEnds.j1 k L r false o s E = some true := by
  have hol := hN.l
  obtain ⟨K, b, hK, hSt⟩ := is_at o s E hN L hL
  have hmono := fun k => (maquettelaw21_ForwardEnds.mono_l k)
  cases b with
  | false =>
    refine ⟨K + 1, fun k hk => ?_⟩
    obtain ⟨k, rfl⟩ : ∃ q, k = q + 1 := ⟨k - 1, by omega⟩
    rw [maquettelaw21_ForwardEnds.j1, if_neg (by simp), hK k (by omega), Option.bind_some, if_neg (by simp)]
  | true =>
    obtain ⟨K2, G, hG, hl⟩ := of_at o s E hN L
    have hLl : (loopsB G).length = o.length := by
      rw [← hl]
      exact itB_len G _ (by simp) _
    obtain ⟨k2, hk2⟩ := l2_at L (reachB G o) (loopsB G) o.length hol hL (by rw [reachB_len, hl]) hLl (fun j a r p ha hr hp => node o s E hN hs L (hSt rfl) K2 G (hG K2 (Nat.le_refl _)) hl j a ha p hp r hr) o.length 0 (by omega)
    refine ⟨K + K2 + k2 + 2, fun k hk => ?_⟩
    obtain ⟨k, rfl⟩ : ∃ q, k = q + 2 := ⟨k - 2, by omega⟩
    rw [maquettelaw21_ForwardEnds.j1, if_neg (by simp), hK _ (by omega), Option.bind_some, if_pos rfl, hG _ (by omega), Option.bind_some]
    unfold forward_Reach.f forward_Loops.f
    rw [if_pos (by omega), if_pos (by omega), Option.bind_some, Option.bind_some, if_pos (by rw [reachB_len, hl, hL]), maquettelaw21_ForwardEnds.j3, hLl, hL, if_neg (by simp)]
    exact up (F := fun k => maquettelaw21_ForwardEnds.l2 k L (reachB G o) (loopsB G) (o.length : Int) ((0 : Nat) : Int)) (fun k => (hmono k).2.2.2.2 _ _ _ _ _) (by omega : k2 ≤ k) hk2
include hN in
theorem l1_at (r : Nat) (hr : r < 1000) (hnext : ∀ L : List AT, L.length = o.length → ∃ k, maquettelaw21_ForwardEnds.l0 k L ((r + 1 : Nat) : Int) o s E = some true) : ∀ d j (L : List AT), j + d = o.length → L.length = o.length → ∃ k, maquettelaw21_ForwardEnds.l1 k L (r : Int) (o.length : Int) (j : Int) o s E = some true
  | 0, j, L, h, hL => by
    obtain ⟨k, hk⟩ := hnext L hL
    refine ⟨k + 1, ?_⟩
    rw [maquettelaw21_ForwardEnds.l1, if_neg (by omega), w1 (by omega)]
    exact hk
  | d + 1, j, L, h, hL => by
    have hol := hN.l
    obtain ⟨K, c, hc⟩ := choice_ok o s E hN L j
    obtain ⟨k, hk⟩ := l1_at r hr hnext d (j + 1) (L.set (j : Int).toNat ⟨c.1, c.2.1, c.2.2.1, c.2.2.2⟩) (by omega) (by rw [List.length_set]; exact hL)
    refine ⟨K + k + 1, ?_⟩
    rw [maquettelaw21_ForwardEnds.l1, if_pos (by omega), up (F := fun k => stable_Choice.f k o s E L (j : Int)) (fun k => stable_Choice.mono _ _ _ _ _ k) (Nat.le_add_right K k) hc, Option.bind_some, if_pos (by omega), if_pos (by omega), w1 (by omega)]
    exact up (F := fun k => maquettelaw21_ForwardEnds.l1 k (L.set (j : Int).toNat ⟨c.1, c.2.1, c.2.2.1, c.2.2.2⟩) (r : Int) (o.length : Int) ((j + 1 : Nat) : Int) o s E) (fun k => (maquettelaw21_ForwardEnds.mono_l k).2.2.1 _ _ _ _ _ _ _) (Nat.le_add_left k K) hk
include hN hs in
theorem l0_at : ∀ (d r : Nat) (L : List AT), r + d = 20 → L.length = o.length → ∃ k, maquettelaw21_ForwardEnds.l0 k L (r : Int) o s E = some true
  | 0, r, L, h, hL => by
    obtain ⟨K, hK⟩ := j1_at o s E hN hs L (r : Int) hL
    refine ⟨K + 1, ?_⟩
    rw [maquettelaw21_ForwardEnds.l0, if_neg (by omega)]
    exact hK K (Nat.le_refl _)
  | d + 1, r, L, h, hL => by
    obtain ⟨K, b, hK, -⟩ := is_at o s E hN L hL
    cases b with
    | true =>
      obtain ⟨K2, hK2⟩ := j1_at o s E hN hs L (r : Int) hL
      refine ⟨K + K2 + 1, ?_⟩
      rw [maquettelaw21_ForwardEnds.l0, if_pos (by omega), hK _ (by omega), Option.bind_some]
      exact hK2 _ (by omega)
    | false =>
      obtain ⟨k, hk⟩ := l1_at o s E hN r (by omega) (fun L' hL' => l0_at d (r + 1) L' (by omega) hL') o.length 0 L (by omega) hL
      refine ⟨K + k + 2, ?_⟩
      rw [maquettelaw21_ForwardEnds.l0, if_pos (by omega), hK _ (by omega), Option.bind_some, maquettelaw21_ForwardEnds.j1, if_pos (by simp), hL]
      exact up (F := fun k => maquettelaw21_ForwardEnds.l1 k L (r : Int) (o.length : Int) ((0 : Nat) : Int) o s E) (fun k => (maquettelaw21_ForwardEnds.mono_l k).2.2.1 _ _ _ _ _ _ _) (by omega : k ≤ K + k) hk
end
theorem no_ways (a0 : Int) (ls : List Int) (mp : List (List Cfg.SU)) (ns nt : List Int) (a b : Int) : ∀ x ∈ netS (Cfg.crouts a0 ls mp ns nt []) a b, x = -1 := by
  intro x hx
  unfold netS at hx
  obtain ⟨r', hr', rfl⟩ := List.mem_map.1 hx
  obtain ⟨r, hr, rfl⟩ := List.mem_map.1 hr'
  unfold Cfg.crouts at hr
  obtain ⟨k, -, rfl⟩ := List.mem_map.1 hr
  have h0 : (Cfg.rout ls mp.length ns nt [] (a0 % 8).toNat k).f3 = [] := by
    show Cfg.statsOf [] (Cfg.lnks ls ns mp.length (a0 % 8).toNat k) k = []
    unfold Cfg.statsOf Cfg.num
    rw [if_neg]
    rintro ⟨h, -⟩
    simp at h
  have h1 : (toRt (Cfg.rout ls mp.length ns nt [] (a0 % 8).toNat k)).ways = [] := by
    show (Cfg.rout ls mp.length ns nt [] (a0 % 8).toNat k).f3.map toWy = []
    rw [h0]
    rfl
  unfold Go.Proofs.Ytcagkdgpoijkoaa.Low.wayB
  rw [h1]
  rfl
theorem lends {a0 : Int} {ls : List Int} {mp : List (List Cfg.SU)} {ns nt ws : List Int} (h : Cfg.Shape a0 ls mp ns nt ws) (a1 : Int) (ha1 : 0 ≤ a1 ∧ a1 ≤ 255) : ∃ k, maquettelaw21_ForwardEnds.f k a0 ls mp ns nt ws a1 = some true := by
  have h' : Cfg.Shape a0 ls mp ns nt [] := ⟨h.a, h.l, h.m, h.s, h.t, fun x hx => (by cases hx), h.zm, h.zr⟩
  obtain ⟨K, o, s, E, p0, p1, b, hK, hb⟩ := lnet_at h' a1 ha1
  have haw : maquettelaw21_awake.f = some true := by
    unfold maquettelaw21_awake.f
    decide +kernel
  cases b with
  | false =>
    refine ⟨K, ?_⟩
    unfold maquettelaw21_ForwardEnds.f
    rw [haw, Option.bind_some, if_pos rfl, hK _ (by omega), Option.bind_some, if_neg (by simp)]
  | true =>
    obtain ⟨p0, p1, rfl, rfl, rfl⟩ := hb rfl
    have hN := net_ok _ _ (config_fit h') p0 p1
    have hol := hN.l
    obtain ⟨k, hk⟩ := l0_at _ _ _ hN (no_ways a0 ls mp ns nt p0 p1) 20 0 (List.replicate (netO (Cfg.crouts a0 ls mp ns nt []) p0 p1).length z41) (by omega) (by simp)
    refine ⟨K + k, ?_⟩
    unfold maquettelaw21_ForwardEnds.f
    rw [haw, Option.bind_some, if_pos rfl, hK _ (by omega), Option.bind_some, if_pos rfl]
    dsimp only
    rw [if_pos (by omega), if_pos (by omega), Int.toNat_natCast]
    exact up (F := fun k => maquettelaw21_ForwardEnds.l0 k _ 0 _ _ _) (fun k => (maquettelaw21_ForwardEnds.mono_l k).1 _ _ _ _ _) (by omega : k ≤ K + k) hk
end Go.Proofs.Ytcagkdgpoijkoaa.LiE
end
section
namespace Go.Proofs.Ytcagkdgpoijkoaa.Open
open Go.ChangeShapes Go.WideShapes Go.ChangeAt Go.RowKit Go.Proofs.Ytcagkdgpoijkoaa.Mq
set_option linter.unusedVariables false
theorem wf_lohi {k : IntKind} {x lo hi : Int} (h : (Lit.int k x).wf = true) (h1 : k.min = lo := by rfl) (h2 : k.max = hi := by rfl) : lo ≤ x ∧ x ≤ hi := by
  unfold Lit.wf at h
  rw [Bool.and_eq_true, decide_eq_true_eq, decide_eq_true_eq, h1, h2] at h
  exact h
theorem wf_u8' {x : Int} (h : (Lit.int .u8 x).wf = true) : 0 ≤ x ∧ x ≤ 255 := wf_lohi h
theorem trodAll_stays {H : Type} {enc : TypeId × Value → H} {P : Program} (hl : laidOutB P = true) {W W' : World} (hb : Below W.heap.size W W') :
    ∀ {ts : List TypeId} {vs : List Value} {ds : List (DataW H)} {ps : List MemPlace}, (∀ t ∈ ts, P.readableRec t = true ∧ t < P.types.size) → DataW.TrodAll enc P W 0 (fun _ => true) true ts vs ds ps →
      ∃ ps', DataW.TrodAll enc P W' 0 (fun b => decide (b < W.heap.size)) true ts vs ds ps'
  | [], vs, ds, ps, _, h => by
    cases vs <;> cases ds <;> simp [DataW.TrodAll] at h
    exact ⟨[], rfl⟩
  | t :: ts, vs, ds, ps, ht, h => by
    obtain ⟨v, vs', d, ds', p, q, rfl, rfl, rfl, h1, h2⟩ := trodAll_cons h
    obtain ⟨q', h3⟩ := trodAll_stays hl hb (fun t h => ht t (List.mem_cons_of_mem _ h)) h2
    have k := h1
    have lt : ∀ x ∈ p, x.block < W.heap.size := by obtain ⟨m, hm⟩ := k; exact DataW.trod_lt m _ _ _ hm
    exact ⟨p ++ q', p, q', Below.trod hl (ht t List.mem_cons_self).1 (ht t List.mem_cons_self).2 h1 hb lt, h3, rfl⟩
theorem lifted_of_walk {H : Type} {enc : TypeId × Value → H} {C : Checked} {os : Os} {f : FuncId} {fn : Func} {s : ChangeSpec} {tb : TypeId} (own : ownKnob C.prog.godebug = none) (started : os.Started) (noInit : C.prog.inits.idxOf? f = none)
    (hfn : C.prog.funcs[f]? = some fn) (hl : laidOutB C.prog = true) (hvars : s.vars = []) (hs : ∀ ds : List (DataW H), ds.length = fn.params.size → s.fn H ds = { results := [.lit (.bool true)], args := ds })
    (hres : fn.resultTypes = #[tb]) (htb : C.prog.underlying tb = some .bool) (hpar : ∀ t ∈ fn.params.toList, C.prog.readableRec t = true ∧ t < C.prog.types.size)
    (witness : ∃ (w : World) (tape : Tape) (i : Input), w.os = os ∧ (w.forCall tape i).Shaped C.prog ∧ i.vars = [] ∧ Input.okWide C.prog (w.forCall tape i) .any w.heap.size f i ∧
      s.pre6 enc C.prog fn [] false (w.forCall tape i).memory i.args ∧ Assume.holds {} C.prog (lone (Frame.enter C.prog f i.args .normal) [] (w.forCall tape i)))
    (walk : ∀ (W : World) (base : Nat) (args : Array Value) (ds : List (DataW H)) (p : List MemPlace), (∀ (j : Nat) t v, fn.params[j]? = some t → args[j]? = some v → Value.okWide C.prog W .any base t v) →
      DataW.TrodAll enc C.prog W 0 (fun _ => true) true fn.params.toList args.toList ds p → (DataW.weightsEach C.prog (fn.params.toList ++ []) (ds ++ [])).all (· ≤ reachBytes) = true →
      Calls C.prog f args W fun e W' => e = .returned (.bool true) ∧ Below W.heap.size W W') :
    ReturnsInHanded {} C os f .any (s.pre6 enc C.prog fn [] false) (s.post enc C.prog fn false true false false) := by
  refine returnsInHanded_of_change_sized (C := C) own started noInit hfn witness ?_
  intro W base args ds gs before hval hW hcnd hsz _
  have hW' := hW
  obtain ⟨p, q, hA, hV, rfl, hfz, hnd⟩ := hW
  have hvt : s.plain.varTypes C.prog = [] := by simp [DataSpec.varTypes, ChangeSpec.plain, hvars]
  have hgs : gs = [] ∧ q = [] := by
    rw [hvars] at hV
    exact trodVars_none hV
  obtain ⟨rfl, rfl⟩ := hgs
  rw [hvt] at hsz
  refine (walk W base args ds p hval hA hsz).mono fun e W' ⟨he, bel⟩ => ?_
  subst he
  obtain ⟨pa, hpa⟩ := trodAll_stays hl bel hpar hA
  have hlen : ds.length = fn.params.size := by
    have : ∀ {ts : List TypeId} {vs : List Value} {ds : List (DataW H)} {ps : List MemPlace}, DataW.TrodAll enc C.prog W 0 (fun _ => true) true ts vs ds ps → ds.length = ts.length := by
      intro ts
      induction ts with
      | nil => intro vs ds ps h; cases vs <;> cases ds <;> simp [DataW.TrodAll] at h; rfl
      | cons t ts ih => intro vs ds ps h; obtain ⟨v, vs', d, ds', p, q, rfl, rfl, rfl, h1, h2⟩ := trodAll_cons h; simp [ih h2]
    rw [this hA]; simp
  have hspec := hs ds hlen
  refine ⟨_, rfl, ds, [], p ++ [], [], pa, [], hW', ?_, ?_, ?_, bel.frame _, fun h => by cases h⟩
  · rw [List.append_nil, hspec, hres]
    exact trodAll_mk1 (shut_bool htb _)
  · rw [List.append_nil, hspec]
    exact hpa
  · rw [List.append_nil, hspec, hvars]
    rfl
section
variable {H : Type} (enc : TypeId × Value → H) (P : Program) (w : World) (base : Nat) (spare : Nat → Bool) (held : Bool)
def Opens {α : Type} (t : TypeId) (d : Rep α) (ok : α → DataW H → Prop) : Prop :=
  ∀ n cs x, DataW.trod enc P w base spare held n t cs = some x → ∃ y, d.K w (· < w.heap.size) y cs ∧ ok y x.1
end
section
variable {H : Type} {enc : TypeId × Value → H} {P : Program} {w : World} {base : Nat} {spare : Nat → Bool} {held : Bool}
def OkRow {α : Type} (ok : α → DataW H → Prop) (ys : List α) (D : DataW H) : Prop :=
  (D = .nil ∧ ys = []) ∨ ∃ es rest, D = .slice es rest ∧ es.length = ys.length ∧ ∀ (i : Nat) y e, ys[i]? = some y → es[i]? = some e → ok y e
theorem OkRow.all {α : Type} {ok : α → DataW H → Prop} {ys : List α} {D : DataW H} (h : OkRow ok ys D) : ∀ y ∈ ys, ∃ e, ok y e := by
  intro y hy
  rcases h with ⟨_, rfl⟩ | ⟨es, rest, _, hl, h⟩
  · cases hy
  · obtain ⟨i, hi, rfl⟩ := List.mem_iff_getElem.1 hy
    exact ⟨es[i], h i _ _ (List.getElem?_eq_getElem hi) (List.getElem?_eq_getElem (by omega))⟩
theorem choose_list {β : Type} {p : Nat → β → Prop} : ∀ n, (∀ i, i < n → ∃ y, p i y) → ∃ l : List β, l.length = n ∧ ∀ i y, l[i]? = some y → p i y
  | 0, _ => ⟨[], rfl, by simp⟩
  | n + 1, h => by
    obtain ⟨l, hl, hp⟩ := choose_list n (fun i hi => h i (by omega))
    obtain ⟨y, hy⟩ := h n (by omega)
    refine ⟨l ++ [y], by simp [hl], fun i z hz => ?_⟩
    rcases Nat.lt_or_ge i l.length with h1 | h1
    · rw [List.getElem?_append_left h1] at hz; exact hp i z hz
    · rw [List.getElem?_append_right h1] at hz
      obtain rfl : i = n := by
        rcases Nat.lt_or_ge (i - l.length) 1 with h2 | h2
        · omega
        · rw [List.getElem?_eq_none (by simpa using h2)] at hz; cases hz
      rw [hl, Nat.sub_self] at hz
      simp at hz
      subst hz
      exact hy
end
end Go.Proofs.Ytcagkdgpoijkoaa.Open
end
section
namespace Go.Proofs.Ytcagkdgpoijkoaa.OpenK
open Go.ChangeShapes Go.WideShapes Go.ChangeAt Go.RowKit Go.Proofs.Ytcagkdgpoijkoaa.Open
open Go.Proofs.YtcagkdgpoijkoaaW.PrintWords (Kd)
set_option linter.unusedVariables false
section
variable {H : Type} (enc : TypeId × Value → H) (P : Program) (w : World) (base : Nat) (spare : Nat → Bool) (held : Bool)
def Opens {α : Type} (t : TypeId) (d : Kd α) (ok : α → DataW H → Prop) : Prop :=
  ∀ n cs x, DataW.trod enc P w base spare held n t cs = some x → ∃ y, d.K w y cs ∧ ok y x.1
end
section
variable {H : Type} {enc : TypeId × Value → H} {P : Program} {w : World} {base : Nat} {spare : Nat → Bool} {held : Bool}
theorem opens_int {t : TypeId} {k : IntKind} (ht : P.underlying t = some (.int k)) : Opens enc P w base spare held t (Kd.int k) (fun y D => (Lit.int k y).wf = true ∧ D = .lit (.int k y)) := by
  intro n cs x h
  obtain ⟨y, rfl, rfl, hw⟩ := DataW.trod_int ht h
  exact ⟨y, rfl, hw, rfl⟩
theorem opens_slice {α : Type} {t e : TypeId} {d : Kd α} {ok : α → DataW H → Prop} (ht : P.underlying t = some (.slice e)) (hc : P.cellsOf e = d.sz) (inner : Opens enc P w base spare held e d ok) :
    Opens enc P w base spare held t (Kd.slice e d) (OkRow ok) := by
  intro n cs x h
  rcases Go.Deep.open_slice ht h with ⟨rfl, rfl⟩ | ⟨a, len, cap, m, n', D, Pl, rfl, hb, hl, hm, hmm, rfl, hx⟩
  · exact ⟨[], ⟨none, 0, rfl, Nat.le_refl _, rfl, Nat.zero_le _, fun h => absurd h (Nat.lt_irrefl 0)⟩, .inl ⟨rfl, rfl⟩⟩
  · have hlm : len ≤ m := by rw [hmm]; split <;> omega
    obtain ⟨ys, hyl, hy⟩ := choose_list (p := fun i y => ∃ cs', (∀ (j : Nat) u, cs'[j]? = some u → w.cell? (a.add (i * d.sz + j)) = some u) ∧ cs'.length = d.sz ∧ d.K w y cs' ∧ ok y (D i)) len (fun i hi => by
      obtain ⟨cs', h1, h2⟩ := hx i (by omega)
      obtain ⟨y, hK, ho⟩ := inner _ _ _ h2
      obtain ⟨_, h3, h4⟩ := World.cells?_some h1
      refine ⟨y, cs', fun j u hu => ?_, by rw [h3, hc], hK, ho⟩
      have hj : j < cs'.length := by
        rcases Nat.lt_or_ge j cs'.length with h5 | h5
        · exact h5
        · rw [List.getElem?_eq_none h5] at hu; cases hu
      have := h4 j (by omega)
      rw [Mq.add_add, hc] at this
      rw [this, hu])
    subst hyl
    have hcap : ys.length ≤ 9223372036854775807 := by
      have e : maxLen = 9223372036854775807 := rfl
      omega
    refine ⟨ys, ⟨some a, cap, rfl, hl, rfl, hcap, fun _ => ⟨a, rfl, fun j p hj => ?_⟩⟩, .inr ⟨_, _, rfl, by simp, fun i y e hyi he => ?_⟩⟩
    · obtain ⟨cs', h1, h2, h3, _⟩ := hy j p hj
      exact ⟨cs', h2, h3, h1⟩
    · obtain ⟨cs', _, _, _, h4⟩ := hy i y hyi
      have hi : i < ys.length := by
        rcases Nat.lt_or_ge i ys.length with h5 | h5
        · exact h5
        · rw [List.getElem?_eq_none h5] at hyi; cases hyi
      rw [List.getElem?_map, List.getElem?_range hi] at he
      simp at he
      subst he
      exact h4
theorem pair_at {α β : Type} {d1 : Kd α} {d2 : Kd β} {x : α} {y : β} {cs : List Value} {o s o' : Nat} (e : o' = o + s) (h1 : d1.K w x ((cs.drop o).take s)) (h2 : d2.K w y (cs.drop o')) : (Kd.pair d1 d2).K w (x, y) (cs.drop o) := by
  subst e
  refine ⟨_, _, ?_, h1, h2⟩
  rw [show cs.drop (o + s) = (cs.drop o).drop s from by rw [List.drop_drop]]
  exact (List.take_append_drop s _).symm
theorem last_at {α : Type} {d : Kd α} {x : α} {cs : List Value} {o s n : Nat} (hl : cs.length = n) (e : n = o + s) (h : d.K w x ((cs.drop o).take s)) : d.K w x (cs.drop o) := by
  rw [List.take_of_length_le (by rw [List.length_drop]; omega)] at h
  exact h
theorem open_arg1 {α : Type} {t : TypeId} {d : Kd α} {ok : α → DataW H → Prop} {v : Value} {D : DataW H} {p : List MemPlace} (inner : Opens enc P w base spare held t d ok) (h : DataW.Trod enc P w base spare held t v D p) : ∃ y, d.K w y v.cells.toList ∧ ok y D := by
  obtain ⟨n, hn⟩ := h
  obtain ⟨y, h1, h2⟩ := inner _ _ _ hn
  exact ⟨y, h1, h2⟩
end
section
variable {H : Type} {enc : TypeId × Value → H} {P : Program} {w : World} {base b0 : Nat} {spare : Nat → Bool} {held : Bool}
theorem open_agg {α : Type} {t : TypeId} {fs : Array Field} {d : Kd α} {ok : α → DataW H → Prop} {v : Value} {D : DataW H} {p : List MemPlace} (ht : P.underlying t = some (.struct fs)) (hv : Value.okWide P w .any b0 t v)
    (inner : Opens enc P w base spare held t d ok) (h : DataW.Trod enc P w base spare held t v D p) : ∃ y cs, v = .agg cs ∧ d.K w y cs.toList ∧ ok y D := by
  obtain ⟨cs, rfl, _⟩ := okWide_struct ht hv
  obtain ⟨y, h1, h2⟩ := open_arg1 inner h
  exact ⟨y, cs, rfl, h1, h2⟩
end
theorem agg_eq {cs : Array Value} {l : List Value} (h : cs.toList = l) : cs = l.toArray := by rw [← h]
theorem OkRow.nth {H α : Type} {ok : α → DataW H → Prop} {ys : List α} {D : DataW H} (h : OkRow ok ys D) {P : α → Prop} (hp : ∀ y e, ok y e → P y) : ∀ y ∈ ys, P y := by
  intro y hy
  obtain ⟨e, he⟩ := h.all y hy
  exact hp y e he
end Go.Proofs.Ytcagkdgpoijkoaa.OpenK
end
