/- Arguments read as data, told in the printer's way (Kd); and from a walk under a bound of bulk to a row. -/
import Derived.Test.YtpalofndmbmiiaaRows
import Derived.Test.YtpalofndmbmiiaaOpen
import Derived.Test.YtpalofndmbmiiaaWWords
import Derived.Deep.CondSized
namespace Go.Proofs.Ytpalofndmbmiiaa.OpenK
open Go.ChangeShapes Go.WideShapes Go.ChangeAt Go.RowKit Go.Proofs.Ytpalofndmbmiiaa.Open
open Go.Proofs.YtpalofndmbmiiaaW.PrintWords (Kd)
set_option linter.unusedVariables false

section
variable {H : Type} (enc : TypeId × Value → H) (P : Program) (w : World) (base : Nat) (spare : Nat → Bool) (held : Bool)
/-- What reads at type t as a datum D lies in memory as a y of d's, of which ok holds. -/
def Opens {α : Type} (t : TypeId) (d : Kd α) (ok : α → DataW H → Prop) : Prop :=
  ∀ n cs x, DataW.trod enc P w base spare held n t cs = some x → ∃ y, d.K w y cs ∧ ok y x.1
end
section
variable {H : Type} {enc : TypeId × Value → H} {P : Program} {w : World} {base : Nat} {spare : Nat → Bool} {held : Bool}
theorem opens_int {t : TypeId} {k : IntKind} (ht : P.underlying t = some (.int k)) : Opens enc P w base spare held t (Kd.int k) (fun y D => (Lit.int k y).wf = true ∧ D = .lit (.int k y)) := by
  intro n cs x h
  obtain ⟨y, rfl, rfl, hw⟩ := DataW.trod_int ht h
  exact ⟨y, rfl, hw, rfl⟩
theorem opens_bool {t : TypeId} (ht : P.underlying t = some .bool) : Opens enc P w base spare held t Kd.bool (fun y D => D = .lit (.bool y)) := by
  intro n cs x h
  obtain ⟨y, rfl, rfl⟩ := DataW.trod_bool ht h
  exact ⟨y, rfl, rfl⟩
theorem opens_str {t : TypeId} (ht : P.underlying t = some .string) : Opens enc P w base spare held t Kd.string (fun y D => y.size ≤ maxLen ∧ D = .lit (.string y.data.toList)) := by
  intro n cs x h
  obtain ⟨s, rfl, rfl, hs⟩ := DataW.trod_string ht h
  exact ⟨s, rfl, hs, rfl⟩
theorem opens_slice {α : Type} {t e : TypeId} {d : Kd α} {ok : α → DataW H → Prop} (ht : P.underlying t = some (.slice e)) (hc : P.cellsOf e = d.sz) (inner : Opens enc P w base spare held e d ok) :
    Opens enc P w base spare held t (Kd.slice e d) (OkRow ok) := by
  intro n cs x h
  rcases Go.Deep.open_slice ht h with ⟨rfl, rfl⟩ | ⟨a, len, cap, m, n', D, Pl, rfl, hb, hl, hm, hmm, rfl, hx⟩
  · exact ⟨[], ⟨none, 0, rfl, Nat.le_refl _, rfl, Nat.zero_le _, fun h => absurd h (Nat.lt_irrefl 0)⟩, .inl ⟨rfl, rfl⟩⟩
  · have hlm : len ≤ m := by rw [hmm]; split <;> omega
    obtain ⟨ys, hyl, hy⟩ := choose_list (p := fun i y => ∃ cs', (∀ (j : Nat) u, cs'[j]? = some u → w.cell? (a.add (i * d.sz + j)) = some u) ∧ cs'.length = d.sz ∧ d.K w y cs' ∧ ok y (D i)) len (fun i hi => by
      obtain ⟨cs', h1, h2⟩ := hx i (by omega)
      obtain ⟨y, hK, ho⟩ := inner _ _ _ h2
      obtain ⟨_, h3, h4⟩ := World.cells?_some h1
      refine ⟨y, cs', fun j u hu => ?_, by rw [h3, hc], hK, ho⟩
      have hj : j < cs'.length := by
        rcases Nat.lt_or_ge j cs'.length with h5 | h5
        · exact h5
        · rw [List.getElem?_eq_none h5] at hu; cases hu
      have := h4 j (by omega)
      rw [Mq.add_add, hc] at this
      rw [this, hu])
    subst hyl
    have hcap : ys.length ≤ 9223372036854775807 := by
      have e : maxLen = 9223372036854775807 := rfl
      omega
    refine ⟨ys, ⟨some a, cap, rfl, hl, rfl, hcap, fun _ => ⟨a, rfl, fun j p hj => ?_⟩⟩, .inr ⟨_, _, rfl, by simp, fun i y e hyi he => ?_⟩⟩
    · obtain ⟨cs', h1, h2, h3, _⟩ := hy j p hj
      exact ⟨cs', h2, h3, h1⟩
    · obtain ⟨cs', _, _, _, h4⟩ := hy i y hyi
      have hi : i < ys.length := by
        rcases Nat.lt_or_ge i ys.length with h5 | h5
        · exact h5
        · rw [List.getElem?_eq_none h5] at hyi; cases hyi
      rw [List.getElem?_map, List.getElem?_range hi] at he
      simp at he
      subst he
      exact h4
theorem pair_at {α β : Type} {d1 : Kd α} {d2 : Kd β} {x : α} {y : β} {cs : List Value} {o s o' : Nat} (e : o' = o + s) (h1 : d1.K w x ((cs.drop o).take s)) (h2 : d2.K w y (cs.drop o')) : (Kd.pair d1 d2).K w (x, y) (cs.drop o) := by
  subst e
  refine ⟨_, _, ?_, h1, h2⟩
  rw [show cs.drop (o + s) = (cs.drop o).drop s from by rw [List.drop_drop]]
  exact (List.take_append_drop s _).symm
theorem last_at {α : Type} {d : Kd α} {x : α} {cs : List Value} {o s n : Nat} (hl : cs.length = n) (e : n = o + s) (h : d.K w x ((cs.drop o).take s)) : d.K w x (cs.drop o) := by
  rw [List.take_of_length_le (by rw [List.length_drop]; omega)] at h
  exact h
/-- An argument of one cell, opened. -/
theorem open_arg1 {α : Type} {t : TypeId} {d : Kd α} {ok : α → DataW H → Prop} {v : Value} {D : DataW H} {p : List MemPlace} (inner : Opens enc P w base spare held t d ok) (h : DataW.Trod enc P w base spare held t v D p) : ∃ y, d.K w y v.cells.toList ∧ ok y D := by
  obtain ⟨n, hn⟩ := h
  obtain ⟨y, h1, h2⟩ := inner _ _ _ hn
  exact ⟨y, h1, h2⟩
end
section
variable {H : Type} {enc : TypeId × Value → H} {P : Program} {w : World} {base b0 : Nat} {spare : Nat → Bool} {held : Bool}
theorem open_agg {α : Type} {t : TypeId} {fs : Array Field} {d : Kd α} {ok : α → DataW H → Prop} {v : Value} {D : DataW H} {p : List MemPlace} (ht : P.underlying t = some (.struct fs)) (hv : Value.okWide P w .any b0 t v)
    (inner : Opens enc P w base spare held t d ok) (h : DataW.Trod enc P w base spare held t v D p) : ∃ y cs, v = .agg cs ∧ d.K w y cs.toList ∧ ok y D := by
  obtain ⟨cs, rfl, _⟩ := okWide_struct ht hv
  obtain ⟨y, h1, h2⟩ := open_arg1 inner h
  exact ⟨y, cs, rfl, h1, h2⟩
end
theorem agg_eq {cs : Array Value} {l : List Value} (h : cs.toList = l) : cs = l.toArray := by rw [← h]
theorem OkRow.nth {H α : Type} {ok : α → DataW H → Prop} {ys : List α} {D : DataW H} (h : OkRow ok ys D) {P : α → Prop} (hp : ∀ y e, ok y e → P y) : ∀ y ∈ ys, P y := by
  intro y hy
  obtain ⟨e, he⟩ := h.all y hy
  exact hp y e he
/-! ### bulk -/
theorem one_le {H : Type} (d : DataW H) : 1 ≤ Rows.uptoBulk d := by
  cases d with
  | lit l => cases l <;> simp [Rows.uptoBulk]
  | nil => simp [Rows.uptoBulk]
  | ptr d => simp [Rows.uptoBulk]
  | slice elems spare => simp [Rows.uptoBulk]
  | agg parts => simp [Rows.uptoBulk]
  | iface t d => simp [Rows.uptoBulk]
  | map entries => simp [Rows.uptoBulk]
  | held h => simp [Rows.uptoBulk]
theorem part_le {H : Type} {d : DataW H} {l : List (DataW H)} (h : d ∈ l) : Rows.uptoBulk d ≤ Rows.uptoBulkAll l := by
  induction l with
  | nil => cases h
  | cons x r ih =>
    simp only [Rows.uptoBulkAll]
    cases List.mem_cons.1 h with
    | inl e => subst e; omega
    | inr e => have := ih e; omega
theorem length_le {H : Type} (l : List (DataW H)) : l.length ≤ Rows.uptoBulkAll l := by
  induction l with
  | nil => simp [Rows.uptoBulkAll]
  | cons x r ih => have := one_le x; simp only [Rows.uptoBulkAll, List.length_cons]; omega
theorem bound {H : Type} {l : List (DataW H)} (hk : Rows.uptoSmall H l = true) : Rows.uptoBulkAll l ≤ 1048576 := of_decide_eq_true hk
theorem OkRow.length_le {H α : Type} {ok : α → DataW H → Prop} {ys : List α} {D : DataW H} (h : OkRow ok ys D) : ys.length ≤ Rows.uptoBulk D := by
  rcases h with ⟨_, rfl⟩ | ⟨es, rest, rfl, hl, _⟩
  · simp
  · have := OpenK.length_le es
    simp only [Rows.uptoBulk]
    omega
theorem OkRow.part_le {H α : Type} {ok : α → DataW H → Prop} {ys : List α} {D : DataW H} (h : OkRow ok ys D) {f : α → Nat} (hf : ∀ y e, ok y e → f y ≤ Rows.uptoBulk e) : ∀ y ∈ ys, f y ≤ Rows.uptoBulk D := by
  intro y hy
  rcases h with ⟨_, rfl⟩ | ⟨es, rest, rfl, hl, h⟩
  · cases hy
  · obtain ⟨i, hi, rfl⟩ := List.mem_iff_getElem.1 hy
    have h1 := hf _ _ (h i _ _ (List.getElem?_eq_getElem hi) (List.getElem?_eq_getElem (by omega)))
    have h2 := OpenK.part_le (List.getElem_mem (l := es) (n := i) (by omega))
    simp only [Rows.uptoBulk]
    omega
theorem sum_aux {H α : Type} {ok : α → DataW H → Prop} {f : α → Nat} {c : Nat} (hf : ∀ y e, ok y e → f y ≤ c * Rows.uptoBulk e) : ∀ (ys : List α) (es : List (DataW H)), ys.length ≤ es.length → (∀ (i : Nat) y e, ys[i]? = some y → es[i]? = some e → ok y e) → (ys.map f).sum ≤ c * Rows.uptoBulkAll es
  | [], es, _, _ => by simp
  | y :: ys, [], h, _ => by simp at h
  | y :: ys, e :: es, h, k => by
    have h1 := hf y e (k 0 y e rfl rfl)
    have h2 := sum_aux hf ys es (by simpa using h) (fun i y e hy he => k (i + 1) y e hy he)
    simp only [List.map_cons, List.sum_cons, Rows.uptoBulkAll, Nat.mul_add]
    omega
theorem OkRow.sum_le {H α : Type} {ok : α → DataW H → Prop} {ys : List α} {D : DataW H} (h : OkRow ok ys D) {f : α → Nat} {c : Nat} (hf : ∀ y e, ok y e → f y ≤ c * Rows.uptoBulk e) : (ys.map f).sum ≤ c * Rows.uptoBulk D := by
  rcases h with ⟨rfl, rfl⟩ | ⟨es, rest, rfl, hl, h⟩
  · simp
  · have h1 := sum_aux hf ys es (by omega) h
    have h2 : c * Rows.uptoBulkAll es ≤ c * Rows.uptoBulk (DataW.slice es rest) := Nat.mul_le_mul_left c (by simp only [Rows.uptoBulk]; omega)
    omega
/-- A law that is walked where what comes in is of little bulk: it answers true, and below it all is as it was. -/
theorem lifted_of_walk_upto {H : Type} {enc : TypeId × Value → H} {C : Checked} {os : Os} {f : FuncId} {fn : Func} {s : ChangeSpec} {tb : TypeId} {F : Stop.Interp} (own : ownKnob C.prog.godebug = none) (started : os.Started) (noInit : C.prog.inits.idxOf? f = none)
    (hfn : C.prog.funcs[f]? = some fn) (hl : laidOutB C.prog = true) (hvars : s.vars = []) (hs : ∀ ds : List (DataW H), ds.length = fn.params.size → s.fn H ds = { results := [.lit (.bool true)], args := ds })
    (hres : fn.resultTypes = #[tb]) (htb : C.prog.underlying tb = some .bool) (hpar : ∀ t ∈ fn.params.toList, C.prog.readableRec t = true ∧ t < C.prog.types.size)
    (witness : ∃ (w : World) (tape : Tape) (i : Input), w.os = os ∧ (w.forCall tape i).Shaped C.prog ∧ i.vars = [] ∧ Input.okWide C.prog (w.forCall tape i) .any w.heap.size f i ∧
      (Rows.OpenSpec.upto s).pre6 enc C.prog fn [] false (w.forCall tape i).memory i.args ∧ Assume.holds {} C.prog (lone (Frame.enter C.prog f i.args .normal) [] (w.forCall tape i)))
    (walk : ∀ (W : World) (base : Nat) (args : Array Value) (ds : List (DataW H)) (p : List MemPlace), (∀ (j : Nat) t v, fn.params[j]? = some t → args[j]? = some v → Value.okWide C.prog W .any base t v) →
      DataW.TrodAll enc C.prog W 0 (fun _ => true) true fn.params.toList args.toList ds p → Rows.uptoBulkAll ds ≤ 1048576 →
      Calls C.prog f args W fun e W' => e = .returned (.bool true) ∧ Below W.heap.size W W') :
    ReturnsInHanded {} C os f .any ((Rows.OpenSpec.upto s).pre6 enc C.prog fn [] false) (((Rows.OpenSpec.upto s).at F).post enc C.prog fn false true false false) := by
  refine returnsInHanded_of_cond_sized (C := C) (s := Rows.OpenSpec.upto s) (k := Rows.uptoSmall) rfl own started noInit hfn witness ?_
  intro W base args ds gs before hval hW hcnd hk hsz _
  have hW' : DataW.Whole enc C.prog fn.params.toList s.vars false W args.toList ds gs before := hW
  clear hW
  obtain ⟨p, q, hA, hV, rfl, hfz, hnd⟩ := id hW'
  have hgs : gs = [] ∧ q = [] := by
    rw [hvars] at hV
    exact trodVars_none hV
  obtain ⟨rfl, rfl⟩ := hgs
  rw [List.append_nil] at hk
  refine (walk W base args ds p hval hA (bound hk)).mono fun e W' ⟨he, bel⟩ => ?_
  subst he
  obtain ⟨pa, hpa⟩ := trodAll_stays hl bel hpar hA
  have hlen : ds.length = fn.params.size := by
    have : ∀ {ts : List TypeId} {vs : List Value} {ds : List (DataW H)} {ps : List MemPlace}, DataW.TrodAll enc C.prog W 0 (fun _ => true) true ts vs ds ps → ds.length = ts.length := by
      intro ts
      induction ts with
      | nil => intro vs ds ps h; cases vs <;> cases ds <;> simp [DataW.TrodAll] at h; rfl
      | cons t ts ih => intro vs ds ps h; obtain ⟨v, vs', d, ds', p, q, rfl, rfl, rfl, h1, h2⟩ := trodAll_cons h; simp [ih h2]
    rw [this hA]; simp
  have hspec := hs ds hlen
  refine ⟨_, rfl, ?_⟩
  show s.post enc C.prog fn false true false false W args _ W'
  refine ⟨ds, [], p ++ [], [], pa, [], hW', ?_, ?_, ?_, bel.frame _, fun h => by cases h⟩
  · rw [List.append_nil, hspec, hres]
    exact trodAll_mk1 (shut_bool htb _)
  · rw [List.append_nil, hspec]
    exact hpa
  · rw [List.append_nil, hspec, hvars]
    rfl
end Go.Proofs.Ytpalofndmbmiiaa.OpenK
