/- What a row of this seat gives: what the library reads of the world (Inv); a start that fits; from a walk to_ a row. -/
import Derived.Test.YtbclogifkifaaaaDoorRows
import Derived.Test.YtbclogifkifaaaaDoorInv
import Derived.Test.YtbclogifkifaaaaDoorOpenK
import Derived.Deep.DeepHandedRow
import Derived.Deep.DeepWitnessRowRef
import Derived.Deep.DeepLaidRun
import Derived.Lib.LaidTab
import Derived.Stop.LaidErr
import Derived.Shelf.Vars
import Derived.MakeChecks
namespace Go.Proofs.YtbclogifkifaaaaDoor.Door
open Go.ChangeShapes Go.WideShapes Go.ChangeAt Go.RowKit Go.Proofs.YtbclogifkifaaaaDoor.Open Go.Proofs.YtbclogifkifaaaaDoor.Inv
set_option linter.unusedVariables false
/-- What the rows list. -/
abbrev laidL : List (String × DataW Unit) := Rows.prefixParseRow.laid
theorem gPow : Tryd.prog.globalNamed "internal/strconv.uint64pow10" = some 3 := by kernel_rfl
theorem gSyn : Tryd.prog.globalNamed "strconv.ErrSyntax" = some 1 := by kernel_rfl
theorem gRng : Tryd.prog.globalNamed "strconv.ErrRange" = some 2 := by kernel_rfl
theorem tPow : (Tryd.prog.globals[3]?).map (·.type) = some 89 := by kernel_rfl
theorem tSyn : (Tryd.prog.globals[1]?).map (·.type) = some 45 := by kernel_rfl
theorem tRng : (Tryd.prog.globals[2]?).map (·.type) = some 45 := by kernel_rfl
theorem noHandles : (laidL.all fun x => x.2.handleName?.isNone) = true := by kernel_rfl
theorem rowES : ∀ u, Tryd.prog.typeName? 3 u = some "*errors.errorString" → u = 95 := by
  intro u h
  have star : "*" ++ "errors.errorString" = "*errors.errorString" := by decide
  exact typeName_ptr_named (nm := "errors.errorString") (by rw [star]; kernel_rfl) (by kernel_rfl) (by decide) u (by rw [star]; exact h)
theorem powData : (Rows.laid_internal_strconv_uint64pow10 : DataW Unit) = Lib.tabData .u64 Lib.pow10Tab := by kernel_rfl
theorem inv_of_row {W : World} (h : laidMetH Tryd.prog laidL W) (hs : W.ShapedOpen Tryd.prog) : Inv W := by
  rw [MakeChecks.laidMetH_plain _ _ _ noHandles] at h
  have h2 := h.tail.tail
  have h4 := h2.tail.tail
  have h5 := h4.tail
  refine ⟨?_, ?_, ?_, ?_⟩
  · exact cell_of_shapedOpen_int (zero := #[.int .i64 0]) hs (by decide +kernel) (by kernel_rfl) (by kernel_rfl) (by kernel_rfl) (by kernel_rfl) Tryd.underlying3
  · have h2' : laidMet Tryd.prog (("internal/strconv.uint64pow10", Rows.laid_internal_strconv_uint64pow10) :: _) W := h2
    rw [powData] at h2'
    exact Lib.tabIs_of_head gPow tPow Tryd.underlying89 Tryd.underlying72 (by kernel_rfl) (by kernel_rfl) h2'
  · obtain ⟨a, s, hv, -, -, -⟩ := laid_sentinel h5 gSyn tSyn Tryd.underlying45 rowES Tryd.underlying95 Tryd.underlying97 rfl rfl Tryd.underlying9 (by kernel_rfl) (by kernel_rfl)
    exact ⟨_, by have h0 := World.var?_cell gSyn hv 0; simpa using h0, Or.inr ⟨_, _, rfl⟩⟩
  · obtain ⟨a, s, hv, -, -, -⟩ := laid_sentinel h4 gRng tRng Tryd.underlying45 rowES Tryd.underlying95 Tryd.underlying97 rfl rfl Tryd.underlying9 (by kernel_rfl) (by kernel_rfl)
    exact ⟨_, by have h0 := World.var?_cell gRng hv 0; simpa using h0, Or.inr ⟨_, _, rfl⟩⟩
/-! ### a start that fits -/
def oneOf : DataW Unit → List Value
  | .lit (.int k n) => [.int k n]
  | _ => []
def twoOf : DataW Unit → List Value
  | .agg l => l.flatMap oneOf
  | d => oneOf d
def cellsOf : DataW Unit → Array Value
  | .agg l => (l.flatMap twoOf).toArray
  | _ => #[]
abbrev synS : ByteArray := ⟨#[105, 110, 118, 97, 108, 105, 100, 32, 115, 121, 110, 116, 97, 120]⟩
abbrev rngS : ByteArray := ⟨#[118, 97, 108, 117, 101, 32, 111, 117, 116, 32, 111, 102, 32, 114, 97, 110, 103, 101]⟩
noncomputable def low : Nat := (World.holding Tryd.prog default ⟨#[], #[], []⟩).heap.size
def lay (h : Array Obj) (g : Nat) (cs : Array Value) : Array Obj := h.modify g fun
  | .cells _ t frozen => .cells cs t frozen
  | o => o
noncomputable def laidWorld (os : Os) : World :=
  let w0 := World.holding Tryd.prog os ⟨#[.cells #[.string rngS] 97, .cells #[.string synS] 97], #[], []⟩
  let h1 := lay w0.heap 6 (cellsOf Rows.laid_math_bits_deBruijn32tab)
  let h2 := lay h1 7 (cellsOf Rows.laid_math_bits_deBruijn64tab)
  let h3 := lay h2 3 (cellsOf Rows.laid_internal_strconv_uint64pow10)
  let h4 := lay h3 5 (cellsOf Rows.laid_unicode_utf8_acceptRanges)
  let h5 := lay h4 4 (cellsOf Rows.laid_unicode_utf8_first)
  let h6 := lay h5 2 #[.iface 95 (.pointer (some ⟨low, 0, none⟩))]
  let h7 := lay h6 1 #[.iface 95 (.pointer (some ⟨low + 1, 0, none⟩))]
  { w0 with heap := h7 }
set_option maxRecDepth 100000 in
theorem laid_met (os : Os) (args : Array Value) : laidMetH Tryd.prog laidL ((laidWorld os).forCall (fun _ _ => 0) ⟨#[], args, []⟩).memory := by
  rw [MakeChecks.laidMetH_plain _ _ _ noHandles]
  exact laidMet_of_run3 12 (by kernel_rfl) (by kernel_rfl) (by kernel_rfl)
theorem own : ownKnob Tryd.prog.godebug = none := by kernel_rfl
theorem laidOut : laidOutB Tryd.prog = true := by kernel_rfl
/-- A law of this seat that is walked: it answers true, and below it all is as it was. -/
theorem lifted_of_walk_row {H : Type} {enc : TypeId × Value → H} {C : Checked} {os : Os} {f : FuncId} {fn : Func} {s : ChangeSpec} {s' : OpenSpec} {tb : TypeId} {F : Stop.Interp} {laid : List (String × DataW Unit)} (own : ownKnob C.prog.godebug = none) (started : os.Started) (noInit : C.prog.inits.idxOf? f = none)
    (hfn : C.prog.funcs[f]? = some fn) (hl : laidOutB C.prog = true) (hs' : s'.vars = []) (hpost : ∀ W args v W', s.post enc C.prog fn false true false false W args v W' → (s'.at F).post enc C.prog fn false true false false W args v W') (hvars : s.vars = []) (hs : ∀ ds : List (DataW H), ds.length = fn.params.size → s.fn H ds = { results := [.lit (.bool true)], args := ds })
    (hres : fn.resultTypes = #[tb]) (htb : C.prog.underlying tb = some .bool) (hpar : ∀ t ∈ fn.params.toList, C.prog.readableRec t = true ∧ t < C.prog.types.size)
    (witness : ∃ (w : World) (tape : Tape) (i : Input), w.os = os ∧ (w.forCall tape i).Shaped C.prog ∧ i.vars = [] ∧ Input.okWide C.prog (w.forCall tape i) .any w.heap.size f i ∧
      s'.preRow enc C.prog fn [] false laid (w.forCall tape i).memory i.args ∧ Assume.holds {} C.prog (lone (Frame.enter C.prog f i.args .normal) [] (w.forCall tape i)))
    (walk : ∀ (W : World) (base : Nat) (args : Array Value) (ds : List (DataW H)) (p : List MemPlace), (∀ (j : Nat) t v, fn.params[j]? = some t → args[j]? = some v → Value.okWide C.prog W .any base t v) →
      DataW.TrodAll enc C.prog W 0 (fun _ => true) true fn.params.toList args.toList ds p → (∀ k, s'.cond = some k → k H ds = true) → laidMetH C.prog laid W → W.ShapedOpen C.prog →
      Calls C.prog f args W fun e W' => e = .returned (.bool true) ∧ Below W.heap.size W W') :
    ReturnsInHanded {} C os f .any (s'.preRow enc C.prog fn [] false laid) ((s'.at F).post enc C.prog fn false true false false) := by
  refine returnsInHanded_of_row (C := C) (s := s') own started noInit hfn witness ?_
  intro W base args ds gs before hval hW hcnd hk hsz hL hsh _
  have hW' : DataW.Whole enc C.prog fn.params.toList s.vars false W args.toList ds gs before := by rw [hvars]; rw [hs'] at hW; exact hW
  clear hW
  obtain ⟨p, q, hA, hV, rfl, hfz, hnd⟩ := id hW'
  have hgs : gs = [] ∧ q = [] := by
    rw [hvars] at hV
    exact trodVars_none hV
  obtain ⟨rfl, rfl⟩ := hgs
  rw [List.append_nil] at hk
  refine (walk W base args ds p hval hA hk hL hsh).mono fun e W' ⟨he, bel⟩ => ?_
  subst he
  obtain ⟨pa, hpa⟩ := trodAll_stays hl bel hpar hA
  have hlen : ds.length = fn.params.size := by
    have : ∀ {ts : List TypeId} {vs : List Value} {ds : List (DataW H)} {ps : List MemPlace}, DataW.TrodAll enc C.prog W 0 (fun _ => true) true ts vs ds ps → ds.length = ts.length := by
      intro ts
      induction ts with
      | nil => intro vs ds ps h; cases vs <;> cases ds <;> simp [DataW.TrodAll] at h; rfl
      | cons t ts ih => intro vs ds ps h; obtain ⟨v, vs', d, ds', p, q, rfl, rfl, rfl, h1, h2⟩ := trodAll_cons h; simp [ih h2]
    rw [this hA]; simp
  have hspec := hs ds hlen
  refine ⟨_, rfl, hpost _ _ _ _ ?_⟩
  refine ⟨ds, [], p ++ [], [], pa, [], hW', ?_, ?_, ?_, bel.frame _, fun h => by cases h⟩
  · rw [List.append_nil, hspec, hres]
    exact trodAll_mk1 (shut_bool htb _)
  · rw [List.append_nil, hspec]
    exact hpa
  · rw [List.append_nil, hspec, hvars]
    rfl
end Go.Proofs.YtbclogifkifaaaaDoor.Door
