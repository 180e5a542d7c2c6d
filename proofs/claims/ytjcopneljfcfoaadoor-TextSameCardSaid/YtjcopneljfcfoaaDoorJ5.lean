/- Texts of this work, joined: TxtSs, Open. -/
import Derived.Test.YtjcopneljfcfoaaDoorTxtS
import Derived.Test.YtjcopneljfcfoaaDoorPRawx29
import Derived.ProofKit
import Derived.SizedLaws
import Derived.Deep.Slices
import Derived.Test.YtjcopneljfcfoaaDoorMq
section
namespace Go.Proofs.YtjcopneljfcfoaaDoor.TxtP
open Go.RowKit Go.Proofs.YtjcopneljfcfoaaDoor.PRaw Go.Proofs.YtjcopneljfcfoaaDoorW.PrintWords Go.Proofs.YtjcopneljfcfoaaDoorW.PrintLast Go.Proofs.YtjcopneljfcfoaaDoorW.PrintMore
open Go.Proofs.YtjcopneljfcfoaaDoor.Cfg (Shape cmaps crouts config_at)
def setAt (x : Int) (r : SR) : SR := ⟨r.f0, r.f1, r.f2, r.f3, x⟩
theorem rt_set (k : Nat) (x : Int) : ∀ l : List SR, text_Config.rtText k (l.map (setAt x)) = text_Config.rtText k l
  | [] => rfl
  | r :: l => by
    rw [List.map_cons, text_Config.rtText, text_Config.rtText, rt_set k x l]
    rfl
theorem config_set (k : Nat) (x : Int) (ms : List SM) (l : List SR) : text_Config.f k ms (l.map (setAt x)) = text_Config.f k ms l := by
  rw [text_Config.f, text_Config.f, rt_set]
theorem same_l (x : Int) (A : List SM) (B : List SR) (C : List SM) (D : List SR) (M : List SM) (R : List SR) (hR : R.length < 4611686018427387904) (r : Bool) (h : ∃ k, ((text_Same.f k A B C D).bind fun t301 => ((maquettelaw07_Text.f k A B).bind fun t302 => ((maquettelaw07_Text.f k C D).bind fun t303 => (if (t301 == (t302.toList == t303.toList)) = true then ((text_Same.f k A B M (R.map (setAt x))).bind fun t304 => (some t304)) else (some false))))) = some r) :
    ∀ d i (l : List SR), i + d = R.length → l = (R.take i).map (setAt x) ++ R.drop i → ∃ k, maquettelaw07_TextSame.l0 k x (R.length : Int) (i : Int) A B C D M l = some r := by
  intro d
  induction d with
  | zero =>
    intro i l hi hl
    obtain rfl : i = R.length := by omega
    rw [List.take_length, List.drop_length, List.append_nil] at hl
    subst hl
    obtain ⟨k, hk⟩ := h
    refine ⟨k + 1, ?_⟩
    rw [maquettelaw07_TextSame.l0, if_neg (by omega)]
    exact hk
  | succ d ih =>
    intro i l hi hl
    obtain ⟨p, hp, hd⟩ := drop_at (l := R) (i := i) (by omega)
    have hlen : ((R.take i).map (setAt x)).length = i := by rw [List.length_map, List.length_take]; omega
    have hll : l.length = R.length := by rw [hl, List.length_append, hlen, List.length_drop]; omega
    have hli : l[i]? = some p := by
      rw [hl, List.getElem?_append_right (by omega), hlen, Nat.sub_self, hd]
      rfl
    obtain ⟨k, hk⟩ := ih (i + 1) (l.set i (setAt x p)) (by omega) (by
      rw [hl, hd, List.take_add_one, hp, List.map_append]
      rw [List.set_append_right _ _ (by omega), hlen, Nat.sub_self]
      simp)
    refine ⟨k + 1, ?_⟩
    rw [maquettelaw07_TextSame.l0, if_pos (by omega), if_pos (by omega), if_pos (by omega)]
    have hg : l.getD i z46 = p := by simp [List.getD, hli]
    simp only [rd_T46, Int.toNat_natCast, hg]
    rw [w1 (by omega)]
    exact hk
theorem lsame {a0 : Int} {ls : List Int} {mp : List (List Cfg.SU)} {ns nt ws : List Int} (h : Shape a0 ls mp ns nt ws) {b0 : Int} {ls' : List Int} {mp' : List (List Cfg.SU)} {ns' nt' ws' : List Int} (h' : Shape b0 ls' mp' ns' nt' ws') (x : Int) :
    ∃ k, maquettelaw07_TextSame.f k a0 ls mp ns nt ws b0 ls' mp' ns' nt' ws' x = some true := by
  obtain ⟨K, hK⟩ := config_at h
  obtain ⟨L, hL⟩ := config_at h'
  obtain ⟨p1, p2, p3, p4⟩ := shape_ok h
  obtain ⟨q1, q2, q3, q4⟩ := shape_ok h'
  obtain ⟨P, t, e1, e2⟩ := config_eq (cmaps mp) (crouts a0 ls mp ns nt ws) p1 p2 (by omega)
  obtain ⟨Q, u, f1, f2⟩ := config_eq (cmaps mp') (crouts b0 ls' mp' ns' nt' ws') q1 q2 (by omega)
  have hlen : (crouts a0 ls mp ns nt ws).length < 4611686018427387904 := by unfold crouts; rw [List.length_map, List.length_range]; omega
  obtain ⟨k, hk⟩ := same_l x (cmaps mp) (crouts a0 ls mp ns nt ws) (cmaps mp') (crouts b0 ls' mp' ns' nt' ws') (cmaps mp) (crouts a0 ls mp ns nt ws) hlen true (by
    refine ⟨P + Q, ?_⟩
    unfold text_Same.f
    rw [e1 _ (by omega), f1 _ (by omega), e2 _ (by omega), f2 _ (by omega), config_set, e1 _ (by omega)]
    simp) (crouts a0 ls mp ns nt ws).length 0 (crouts a0 ls mp ns nt ws) (by omega) (by simp)
  refine ⟨K + L + k + 40, ?_⟩
  unfold maquettelaw07_TextSame.f
  rw [awake7' (by omega), Option.bind_some, if_pos rfl, hK _ (by omega), Option.bind_some, hL _ (by omega), Option.bind_some, Option.bind_some]
  simp only
  rw [show ((0 : Nat) : Int) = 0 from rfl] at hk
  exact leO_up (F := fun k => maquettelaw07_TextSame.l0 k _ _ _ _ _ _ _ _ _) (fun k => maquettelaw07_TextSame.mono_l k _ _ _ _ _ _ _ _ _) (show k ≤ K + L + k + 40 by omega) hk
end Go.Proofs.YtjcopneljfcfoaaDoor.TxtP
end
section
namespace Go.Proofs.YtjcopneljfcfoaaDoor.Open
open Go.ChangeShapes Go.WideShapes Go.ChangeAt Go.RowKit Go.Proofs.YtjcopneljfcfoaaDoor.Mq
set_option linter.unusedVariables false

theorem wf_lohi {k : IntKind} {x lo hi : Int} (h : (Lit.int k x).wf = true) (h1 : k.min = lo := by rfl) (h2 : k.max = hi := by rfl) : lo ≤ x ∧ x ≤ hi := by
  unfold Lit.wf at h
  rw [Bool.and_eq_true, decide_eq_true_eq, decide_eq_true_eq, h1, h2] at h
  exact h
theorem wf_u8' {x : Int} (h : (Lit.int .u8 x).wf = true) : 0 ≤ x ∧ x ≤ 255 := wf_lohi h
theorem trodAll_stays {H : Type} {enc : TypeId × Value → H} {P : Program} (hl : laidOutB P = true) {W W' : World} (hb : Below W.heap.size W W') :
    ∀ {ts : List TypeId} {vs : List Value} {ds : List (DataW H)} {ps : List MemPlace}, (∀ t ∈ ts, P.readableRec t = true ∧ t < P.types.size) → DataW.TrodAll enc P W 0 (fun _ => true) true ts vs ds ps →
      ∃ ps', DataW.TrodAll enc P W' 0 (fun b => decide (b < W.heap.size)) true ts vs ds ps'
  | [], vs, ds, ps, _, h => by
    cases vs <;> cases ds <;> simp [DataW.TrodAll] at h
    exact ⟨[], rfl⟩
  | t :: ts, vs, ds, ps, ht, h => by
    obtain ⟨v, vs', d, ds', p, q, rfl, rfl, rfl, h1, h2⟩ := trodAll_cons h
    obtain ⟨q', h3⟩ := trodAll_stays hl hb (fun t h => ht t (List.mem_cons_of_mem _ h)) h2
    have k := h1
    have lt : ∀ x ∈ p, x.block < W.heap.size := by obtain ⟨m, hm⟩ := k; exact DataW.trod_lt m _ _ _ hm
    exact ⟨p ++ q', p, q', Below.trod hl (ht t List.mem_cons_self).1 (ht t List.mem_cons_self).2 h1 hb lt, h3, rfl⟩

/-! ### opening -/
section
variable {H : Type} (enc : TypeId × Value → H) (P : Program) (w : World) (base : Nat) (spare : Nat → Bool) (held : Bool)
/-- What reads at type t as a datum D lies in memory as a y of d's, of which ok holds. -/
def Opens {α : Type} (t : TypeId) (d : Rep α) (ok : α → DataW H → Prop) : Prop :=
  ∀ n cs x, DataW.trod enc P w base spare held n t cs = some x → ∃ y, d.K w (· < w.heap.size) y cs ∧ ok y x.1
end
section
variable {H : Type} {enc : TypeId × Value → H} {P : Program} {w : World} {base : Nat} {spare : Nat → Bool} {held : Bool}
theorem opens_int {t : TypeId} {k : IntKind} (ht : P.underlying t = some (.int k)) : Opens enc P w base spare held t (int k) (fun y _ => (Lit.int k y).wf = true) := by
  intro n cs x h
  obtain ⟨y, rfl, rfl, hw⟩ := DataW.trod_int ht h
  exact ⟨y, rfl, hw⟩
/-- A slice's datum, element by element. -/
def OkRow {α : Type} (ok : α → DataW H → Prop) (ys : List α) (D : DataW H) : Prop :=
  (D = .nil ∧ ys = []) ∨ ∃ es rest, D = .slice es rest ∧ es.length = ys.length ∧ ∀ (i : Nat) y e, ys[i]? = some y → es[i]? = some e → ok y e
theorem OkRow.all {α : Type} {ok : α → DataW H → Prop} {ys : List α} {D : DataW H} (h : OkRow ok ys D) : ∀ y ∈ ys, ∃ e, ok y e := by
  intro y hy
  rcases h with ⟨_, rfl⟩ | ⟨es, rest, _, hl, h⟩
  · cases hy
  · obtain ⟨i, hi, rfl⟩ := List.mem_iff_getElem.1 hy
    exact ⟨es[i], h i _ _ (List.getElem?_eq_getElem hi) (List.getElem?_eq_getElem (by omega))⟩
theorem choose_list {β : Type} {p : Nat → β → Prop} : ∀ n, (∀ i, i < n → ∃ y, p i y) → ∃ l : List β, l.length = n ∧ ∀ i y, l[i]? = some y → p i y
  | 0, _ => ⟨[], rfl, by simp⟩
  | n + 1, h => by
    obtain ⟨l, hl, hp⟩ := choose_list n (fun i hi => h i (by omega))
    obtain ⟨y, hy⟩ := h n (by omega)
    refine ⟨l ++ [y], by simp [hl], fun i z hz => ?_⟩
    rcases Nat.lt_or_ge i l.length with h1 | h1
    · rw [List.getElem?_append_left h1] at hz; exact hp i z hz
    · rw [List.getElem?_append_right h1] at hz
      obtain rfl : i = n := by
        rcases Nat.lt_or_ge (i - l.length) 1 with h2 | h2
        · omega
        · rw [List.getElem?_eq_none (by simpa using h2)] at hz; cases hz
      rw [hl, Nat.sub_self] at hz
      simp at hz
      subst hz
      exact hy
theorem opens_slice {α : Type} {t e : TypeId} {d : Rep α} {ok : α → DataW H → Prop} (ht : P.underlying t = some (.slice e)) (hc : P.cellsOf e = d.sz) (hd : 0 < d.sz) (inner : Opens enc P w base spare held e d ok) :
    Opens enc P w base spare held t (slice d) (OkRow ok) := by
  intro n cs x h
  rcases Go.Deep.open_slice ht h with ⟨rfl, rfl⟩ | ⟨a, len, cap, m, n', D, Pl, rfl, hb, hl, hm, hmm, rfl, hx⟩
  · exact ⟨[], ⟨none, 0, rfl, Nat.le_refl _, Row.nil⟩, .inl ⟨rfl, rfl⟩⟩
  · have hlm : len ≤ m := by rw [hmm]; split <;> omega
    obtain ⟨ys, hyl, hy⟩ := choose_list (p := fun i y => ∃ cs', (∀ (j : Nat) u, cs'[j]? = some u → w.cell? (a.add (i * d.sz + j)) = some u) ∧ cs'.length = d.sz ∧ d.K w (· < w.heap.size) y cs' ∧ ok y (D i)) len (fun i hi => by
      obtain ⟨cs', h1, h2⟩ := hx i (by omega)
      obtain ⟨y, hK, ho⟩ := inner _ _ _ h2
      obtain ⟨_, h3, h4⟩ := World.cells?_some h1
      refine ⟨y, cs', fun j u hu => ?_, by rw [h3, hc], hK, ho⟩
      have hj : j < cs'.length := by
        rcases Nat.lt_or_ge j cs'.length with h5 | h5
        · exact h5
        · rw [List.getElem?_eq_none h5] at hu; cases hu
      have := h4 j (by omega)
      rw [add_add, hc] at this
      rw [this, hu])
    subst hyl
    refine ⟨ys, ⟨some a, cap, rfl, hl, by omega, fun hp => ⟨a, rfl, ?_, ?_, fun i y hyi => ?_⟩⟩, .inr ⟨_, _, rfl, by simp, fun i y e hyi he => ?_⟩⟩
    · obtain ⟨cs', h1, h2, _⟩ := hy 0 _ (List.getElem?_eq_getElem hp)
      have h3 := h1 0 _ (List.getElem?_eq_getElem (by omega))
      have := World.block_lt_of_cell? w _ h3
      rwa [add_block] at this
    · obtain ⟨cs', h1, h2, _⟩ := hy 0 _ (List.getElem?_eq_getElem hp)
      have h3 := h1 0 _ (List.getElem?_eq_getElem (by omega))
      have := World.block_lt_of_cell? w _ h3
      rwa [add_block] at this
    · obtain ⟨cs', h1, h2, h3, _⟩ := hy i y hyi
      exact ⟨cs', h3, h1⟩
    · obtain ⟨cs', _, _, _, h4⟩ := hy i y hyi
      have hi : i < ys.length := by
        rcases Nat.lt_or_ge i ys.length with h5 | h5
        · exact h5
        · rw [List.getElem?_eq_none h5] at hyi; cases hyi
      rw [List.getElem?_map, List.getElem?_range hi] at he
      simp at he
      subst he
      exact h4
end
end Go.Proofs.YtjcopneljfcfoaaDoor.Open
end
