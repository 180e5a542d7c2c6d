/- Texts of this work, joined: OpenK, Door. -/
import Derived.Test.YtjcopneljfcfoaaDoorRows
import Derived.Test.YtjcopneljfcfoaaDoorOpen
import Derived.Test.YtjcopneljfcfoaaDoorWWords
import Derived.Deep.CondSized
import Derived.Test.YtjcopneljfcfoaaDoorJ0
import Derived.Deep.DeepHandedRow
import Derived.Deep.DeepWitnessRowRef
import Derived.Deep.DeepLaidRun
import Derived.Lib.LaidTab
import Derived.Stop.LaidErr
import Derived.Shelf.Vars
import Derived.MakeChecks
section
namespace Go.Proofs.YtjcopneljfcfoaaDoor.OpenK
open Go.ChangeShapes Go.WideShapes Go.ChangeAt Go.RowKit Go.Proofs.YtjcopneljfcfoaaDoor.Open
open Go.Proofs.YtjcopneljfcfoaaDoorW.PrintWords (Kd)
set_option linter.unusedVariables false

section
variable {H : Type} (enc : TypeId × Value → H) (P : Program) (w : World) (base : Nat) (spare : Nat → Bool) (held : Bool)
/-- What reads at type t as a datum D lies in memory as a y of d's, of which ok holds. -/
def Opens {α : Type} (t : TypeId) (d : Kd α) (ok : α → DataW H → Prop) : Prop :=
  ∀ n cs x, DataW.trod enc P w base spare held n t cs = some x → ∃ y, d.K w y cs ∧ ok y x.1
end
section
variable {H : Type} {enc : TypeId × Value → H} {P : Program} {w : World} {base : Nat} {spare : Nat → Bool} {held : Bool}
theorem opens_int {t : TypeId} {k : IntKind} (ht : P.underlying t = some (.int k)) : Opens enc P w base spare held t (Kd.int k) (fun y D => (Lit.int k y).wf = true ∧ D = .lit (.int k y)) := by
  intro n cs x h
  obtain ⟨y, rfl, rfl, hw⟩ := DataW.trod_int ht h
  exact ⟨y, rfl, hw, rfl⟩
theorem opens_slice {α : Type} {t e : TypeId} {d : Kd α} {ok : α → DataW H → Prop} (ht : P.underlying t = some (.slice e)) (hc : P.cellsOf e = d.sz) (inner : Opens enc P w base spare held e d ok) :
    Opens enc P w base spare held t (Kd.slice e d) (OkRow ok) := by
  intro n cs x h
  rcases Go.Deep.open_slice ht h with ⟨rfl, rfl⟩ | ⟨a, len, cap, m, n', D, Pl, rfl, hb, hl, hm, hmm, rfl, hx⟩
  · exact ⟨[], ⟨none, 0, rfl, Nat.le_refl _, rfl, Nat.zero_le _, fun h => absurd h (Nat.lt_irrefl 0)⟩, .inl ⟨rfl, rfl⟩⟩
  · have hlm : len ≤ m := by rw [hmm]; split <;> omega
    obtain ⟨ys, hyl, hy⟩ := choose_list (p := fun i y => ∃ cs', (∀ (j : Nat) u, cs'[j]? = some u → w.cell? (a.add (i * d.sz + j)) = some u) ∧ cs'.length = d.sz ∧ d.K w y cs' ∧ ok y (D i)) len (fun i hi => by
      obtain ⟨cs', h1, h2⟩ := hx i (by omega)
      obtain ⟨y, hK, ho⟩ := inner _ _ _ h2
      obtain ⟨_, h3, h4⟩ := World.cells?_some h1
      refine ⟨y, cs', fun j u hu => ?_, by rw [h3, hc], hK, ho⟩
      have hj : j < cs'.length := by
        rcases Nat.lt_or_ge j cs'.length with h5 | h5
        · exact h5
        · rw [List.getElem?_eq_none h5] at hu; cases hu
      have := h4 j (by omega)
      rw [Mq.add_add, hc] at this
      rw [this, hu])
    subst hyl
    have hcap : ys.length ≤ 9223372036854775807 := by
      have e : maxLen = 9223372036854775807 := rfl
      omega
    refine ⟨ys, ⟨some a, cap, rfl, hl, rfl, hcap, fun _ => ⟨a, rfl, fun j p hj => ?_⟩⟩, .inr ⟨_, _, rfl, by simp, fun i y e hyi he => ?_⟩⟩
    · obtain ⟨cs', h1, h2, h3, _⟩ := hy j p hj
      exact ⟨cs', h2, h3, h1⟩
    · obtain ⟨cs', _, _, _, h4⟩ := hy i y hyi
      have hi : i < ys.length := by
        rcases Nat.lt_or_ge i ys.length with h5 | h5
        · exact h5
        · rw [List.getElem?_eq_none h5] at hyi; cases hyi
      rw [List.getElem?_map, List.getElem?_range hi] at he
      simp at he
      subst he
      exact h4
theorem pair_at {α β : Type} {d1 : Kd α} {d2 : Kd β} {x : α} {y : β} {cs : List Value} {o s o' : Nat} (e : o' = o + s) (h1 : d1.K w x ((cs.drop o).take s)) (h2 : d2.K w y (cs.drop o')) : (Kd.pair d1 d2).K w (x, y) (cs.drop o) := by
  subst e
  refine ⟨_, _, ?_, h1, h2⟩
  rw [show cs.drop (o + s) = (cs.drop o).drop s from by rw [List.drop_drop]]
  exact (List.take_append_drop s _).symm
theorem last_at {α : Type} {d : Kd α} {x : α} {cs : List Value} {o s n : Nat} (hl : cs.length = n) (e : n = o + s) (h : d.K w x ((cs.drop o).take s)) : d.K w x (cs.drop o) := by
  rw [List.take_of_length_le (by rw [List.length_drop]; omega)] at h
  exact h
/-- An argument of one cell, opened. -/
theorem open_arg1 {α : Type} {t : TypeId} {d : Kd α} {ok : α → DataW H → Prop} {v : Value} {D : DataW H} {p : List MemPlace} (inner : Opens enc P w base spare held t d ok) (h : DataW.Trod enc P w base spare held t v D p) : ∃ y, d.K w y v.cells.toList ∧ ok y D := by
  obtain ⟨n, hn⟩ := h
  obtain ⟨y, h1, h2⟩ := inner _ _ _ hn
  exact ⟨y, h1, h2⟩
end
section
variable {H : Type} {enc : TypeId × Value → H} {P : Program} {w : World} {base b0 : Nat} {spare : Nat → Bool} {held : Bool}
theorem open_agg {α : Type} {t : TypeId} {fs : Array Field} {d : Kd α} {ok : α → DataW H → Prop} {v : Value} {D : DataW H} {p : List MemPlace} (ht : P.underlying t = some (.struct fs)) (hv : Value.okWide P w .any b0 t v)
    (inner : Opens enc P w base spare held t d ok) (h : DataW.Trod enc P w base spare held t v D p) : ∃ y cs, v = .agg cs ∧ d.K w y cs.toList ∧ ok y D := by
  obtain ⟨cs, rfl, _⟩ := okWide_struct ht hv
  obtain ⟨y, h1, h2⟩ := open_arg1 inner h
  exact ⟨y, cs, rfl, h1, h2⟩
end
theorem agg_eq {cs : Array Value} {l : List Value} (h : cs.toList = l) : cs = l.toArray := by rw [← h]
theorem OkRow.nth {H α : Type} {ok : α → DataW H → Prop} {ys : List α} {D : DataW H} (h : OkRow ok ys D) {P : α → Prop} (hp : ∀ y e, ok y e → P y) : ∀ y ∈ ys, P y := by
  intro y hy
  obtain ⟨e, he⟩ := h.all y hy
  exact hp y e he
/-! ### bulk -/
theorem bound {H : Type} {l : List (DataW H)} (hk : Rows.uptoSmall H l = true) : Rows.uptoBulkAll l ≤ 1048576 := of_decide_eq_true hk
end Go.Proofs.YtjcopneljfcfoaaDoor.OpenK
end
section
namespace Go.Proofs.YtjcopneljfcfoaaDoor.Door
open Go.ChangeShapes Go.WideShapes Go.ChangeAt Go.RowKit Go.Proofs.YtjcopneljfcfoaaDoor.Open Go.Proofs.YtjcopneljfcfoaaDoor.Inv
set_option linter.unusedVariables false
/-- What the rows list. -/
abbrev laidL : List (String × DataW Unit) := Rows.textConfigRow.laid
theorem gPow : Tryd.prog.globalNamed "internal/strconv.uint64pow10" = some 0 := by kernel_rfl
theorem tPow : (Tryd.prog.globals[0]?).map (·.type) = some 97 := by kernel_rfl
theorem noHandles : (laidL.all fun x => x.2.handleName?.isNone) = true := by kernel_rfl
theorem powData : (Rows.laid_internal_strconv_uint64pow10 : DataW Unit) = Lib.tabData .u64 Lib.pow10Tab := by kernel_rfl
theorem inv_of_row {W : World} (h : laidMetH Tryd.prog laidL W) (hs : W.ShapedOpen Tryd.prog) : Inv W := by
  rw [MakeChecks.laidMetH_plain _ _ _ noHandles] at h
  have h2 := h.tail.tail
  refine ⟨?_⟩
  have h2' : laidMet Tryd.prog (("internal/strconv.uint64pow10", Rows.laid_internal_strconv_uint64pow10) :: _) W := h2
  rw [powData] at h2'
  exact Lib.tabIs_of_head gPow tPow Tryd.underlying97 Tryd.underlying89 (by kernel_rfl) (by kernel_rfl) h2'
/-! ### a start that fits -/
def oneOf : DataW Unit → List Value
  | .lit (.int k n) => [.int k n]
  | _ => []
def twoOf : DataW Unit → List Value
  | .agg l => l.flatMap oneOf
  | d => oneOf d
def cellsOf : DataW Unit → Array Value
  | .agg l => (l.flatMap twoOf).toArray
  | _ => #[]
def lay (h : Array Obj) (g : Nat) (cs : Array Value) : Array Obj := h.modify g fun
  | .cells _ t frozen => .cells cs t frozen
  | o => o
noncomputable def laidWorld (os : Os) : World :=
  let w0 := World.holding Tryd.prog os ⟨#[], #[], []⟩
  let h1 := lay w0.heap 2 (cellsOf Rows.laid_math_bits_deBruijn32tab)
  let h2 := lay h1 3 (cellsOf Rows.laid_math_bits_deBruijn64tab)
  let h3 := lay h2 0 (cellsOf Rows.laid_internal_strconv_uint64pow10)
  { w0 with heap := h3 }
set_option maxRecDepth 100000 in
theorem laid_met (os : Os) (args : Array Value) : laidMetH Tryd.prog laidL ((laidWorld os).forCall (fun _ _ => 0) ⟨#[], args, []⟩).memory := by
  rw [MakeChecks.laidMetH_plain _ _ _ noHandles]
  exact laidMet_of_run3 12 (by kernel_rfl) (by kernel_rfl) (by kernel_rfl)
theorem own : ownKnob Tryd.prog.godebug = none := by kernel_rfl
theorem laidOut : laidOutB Tryd.prog = true := by kernel_rfl
/-- A law of this seat that is walked: it answers true, and below it all is as it was. -/
theorem lifted_of_walk_row {H : Type} {enc : TypeId × Value → H} {C : Checked} {os : Os} {f : FuncId} {fn : Func} {s : ChangeSpec} {s' : OpenSpec} {tb : TypeId} {F : Stop.Interp} {laid : List (String × DataW Unit)} (own : ownKnob C.prog.godebug = none) (started : os.Started) (noInit : C.prog.inits.idxOf? f = none)
    (hfn : C.prog.funcs[f]? = some fn) (hl : laidOutB C.prog = true) (hs' : s'.vars = []) (hpost : ∀ W args v W', s.post enc C.prog fn false true false false W args v W' → (s'.at F).post enc C.prog fn false true false false W args v W') (hvars : s.vars = []) (hs : ∀ ds : List (DataW H), ds.length = fn.params.size → s.fn H ds = { results := [.lit (.bool true)], args := ds })
    (hres : fn.resultTypes = #[tb]) (htb : C.prog.underlying tb = some .bool) (hpar : ∀ t ∈ fn.params.toList, C.prog.readableRec t = true ∧ t < C.prog.types.size)
    (witness : ∃ (w : World) (tape : Tape) (i : Input), w.os = os ∧ (w.forCall tape i).Shaped C.prog ∧ i.vars = [] ∧ Input.okWide C.prog (w.forCall tape i) .any w.heap.size f i ∧
      s'.preRow enc C.prog fn [] false laid (w.forCall tape i).memory i.args ∧ Assume.holds {} C.prog (lone (Frame.enter C.prog f i.args .normal) [] (w.forCall tape i)))
    (walk : ∀ (W : World) (base : Nat) (args : Array Value) (ds : List (DataW H)) (p : List MemPlace), (∀ (j : Nat) t v, fn.params[j]? = some t → args[j]? = some v → Value.okWide C.prog W .any base t v) →
      DataW.TrodAll enc C.prog W 0 (fun _ => true) true fn.params.toList args.toList ds p → (∀ k, s'.cond = some k → k H ds = true) → laidMetH C.prog laid W → W.ShapedOpen C.prog →
      Calls C.prog f args W fun e W' => e = .returned (.bool true) ∧ Below W.heap.size W W') :
    ReturnsInHanded {} C os f .any (s'.preRow enc C.prog fn [] false laid) ((s'.at F).post enc C.prog fn false true false false) := by
  refine returnsInHanded_of_row (C := C) (s := s') own started noInit hfn witness ?_
  intro W base args ds gs before hval hW hcnd hk hsz hL hsh _
  have hW' : DataW.Whole enc C.prog fn.params.toList s.vars false W args.toList ds gs before := by rw [hvars]; rw [hs'] at hW; exact hW
  clear hW
  obtain ⟨p, q, hA, hV, rfl, hfz, hnd⟩ := id hW'
  have hgs : gs = [] ∧ q = [] := by
    rw [hvars] at hV
    exact trodVars_none hV
  obtain ⟨rfl, rfl⟩ := hgs
  rw [List.append_nil] at hk
  refine (walk W base args ds p hval hA hk hL hsh).mono fun e W' ⟨he, bel⟩ => ?_
  subst he
  obtain ⟨pa, hpa⟩ := trodAll_stays hl bel hpar hA
  have hlen : ds.length = fn.params.size := by
    have : ∀ {ts : List TypeId} {vs : List Value} {ds : List (DataW H)} {ps : List MemPlace}, DataW.TrodAll enc C.prog W 0 (fun _ => true) true ts vs ds ps → ds.length = ts.length := by
      intro ts
      induction ts with
      | nil => intro vs ds ps h; cases vs <;> cases ds <;> simp [DataW.TrodAll] at h; rfl
      | cons t ts ih => intro vs ds ps h; obtain ⟨v, vs', d, ds', p, q, rfl, rfl, rfl, h1, h2⟩ := trodAll_cons h; simp [ih h2]
    rw [this hA]; simp
  have hspec := hs ds hlen
  refine ⟨_, rfl, hpost _ _ _ _ ?_⟩
  refine ⟨ds, [], p ++ [], [], pa, [], hW', ?_, ?_, ?_, bel.frame _, fun h => by cases h⟩
  · rw [List.append_nil, hspec, hres]
    exact trodAll_mk1 (shut_bool htb _)
  · rw [List.append_nil, hspec]
    exact hpa
  · rw [List.append_nil, hspec, hvars]
    rfl
end Go.Proofs.YtjcopneljfcfoaaDoor.Door
end
