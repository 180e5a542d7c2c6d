/-
  No cell of these rows narrows 'for every input' (looked for: loops, veiled, ifaces, maps, wideKeys, modest, calm, conditions, laid).
  DERIVED. THE GIVEN ROWS OF THIS SEAT. 6 by the template 'for every input the law returns true; each argument reads behind the call as it read before'; 0 by the template 'total and deterministic' (their statements: YtmegjmiiiecnoaaTotals.lean).
  GIVEN WITH THE SEED: the statements are not yours to turn. If you find one false, say at which input.
  Laid BY PROGRAM, IN A SANDBOX (cutbox-rows.mjs): the forced cells as the released guide's own fill.sh prints them over the translation 8b3173378fd0f448… (all of the seat's roots in one cut). By AI agents, Wed Nov 11 2026. No macro, syntax, notation, axiom, sorry.
-/
import Derived.Test.YtmegjmiiiecnoaaChecked
import GoSem.Claim
import GoSem.ClaimJoined
import GoSem.ClaimMapViews
import Derived.JoinedTies
import Derived.KernelRfl
namespace Go.Proofs.Ytmegjmiiiecnoaa
/- THE CELL 'sum', in the pinned program and in every row, IS THE sha256 OF THE DUMP (.gsa) THAT YtmegjmiiiecnoaaProg.lean LOADS. Nothing in Lean hashes anything: it is a label: what it is worth is what the hold of that sum in a sandbox is worth. -/
noncomputable def Try.pinned : Pinned := { name := "ytmegjmiiiecnoaa", sum := "8b3173378fd0f448c5b326eda1d69dbc255e64dd5375e5c3e73dd839bcad8f98", checked := Try.checked }
namespace Rows
def none {H : Type} : Left H := { results := [], args := [] }

/-- 'maquettelaw21.ForwardLoops': WHATEVER THE INPUT: true; the input reads as it did. -/
def forwardLoopsSpec : ChangeSpec := { name := "forwardLoops", fn := fun _ => fun
  | [d] => { results := [.lit (.bool true)], args := [d] }
  | _ => none }
def forwardLoopsRow : OpenClaim := { program := "ytmegjmiiiecnoaa", sum := "8b3173378fd0f448c5b326eda1d69dbc255e64dd5375e5c3e73dd839bcad8f98", func := "maquette/maquettelaw21.ForwardLoops", spec := "forwardLoops", recurses := true, plainKeys := false, apart := false }
def ForwardLoopsSaid : Prop := forwardLoopsRow.holds Try.pinned (OpenSpec.ofChange forwardLoopsSpec)

/-- ITS FALSE NEIGHBOUR: 'it returns false'. Refute it at one input. -/
def forwardLoopsWrong : ChangeSpec := { name := "forwardLoops", fn := fun _ => fun
  | [d] => { results := [.lit (.bool false)], args := [d] }
  | _ => none }
def ForwardLoopsWrongFalsely : Prop := forwardLoopsRow.holds Try.pinned (OpenSpec.ofChange forwardLoopsWrong)

/-- 'maquettelaw21.ForwardStep': WHATEVER THE INPUT: true; the input reads as it did. -/
def forwardStepSpec : ChangeSpec := { name := "forwardStep", fn := fun _ => fun
  | [d1, d2] => { results := [.lit (.bool true)], args := [d1, d2] }
  | _ => none }
def forwardStepRow : OpenClaim := { program := "ytmegjmiiiecnoaa", sum := "8b3173378fd0f448c5b326eda1d69dbc255e64dd5375e5c3e73dd839bcad8f98", func := "maquette/maquettelaw21.ForwardStep", spec := "forwardStep", unfollowed := true, recurses := true, plainKeys := false, apart := false }
def ForwardStepSaid : Prop := forwardStepRow.holds Try.pinned (OpenSpec.ofChange forwardStepSpec)

/-- ITS FALSE NEIGHBOUR: 'it returns false'. Refute it at one input. -/
def forwardStepWrong : ChangeSpec := { name := "forwardStep", fn := fun _ => fun
  | [d1, d2] => { results := [.lit (.bool false)], args := [d1, d2] }
  | _ => none }
def ForwardStepWrongFalsely : Prop := forwardStepRow.holds Try.pinned (OpenSpec.ofChange forwardStepWrong)

/-- 'maquettelaw21.ForwardHops': WHATEVER THE INPUT: true; the input reads as it did. -/
def forwardHopsSpec : ChangeSpec := { name := "forwardHops", fn := fun _ => fun
  | [d1, d2, d3] => { results := [.lit (.bool true)], args := [d1, d2, d3] }
  | _ => none }
def forwardHopsRow : OpenClaim := { program := "ytmegjmiiiecnoaa", sum := "8b3173378fd0f448c5b326eda1d69dbc255e64dd5375e5c3e73dd839bcad8f98", func := "maquette/maquettelaw21.ForwardHops", spec := "forwardHops", recurses := true, plainKeys := false, apart := false }
def ForwardHopsSaid : Prop := forwardHopsRow.holds Try.pinned (OpenSpec.ofChange forwardHopsSpec)

/-- ITS FALSE NEIGHBOUR: 'it returns false'. Refute it at one input. -/
def forwardHopsWrong : ChangeSpec := { name := "forwardHops", fn := fun _ => fun
  | [d1, d2, d3] => { results := [.lit (.bool false)], args := [d1, d2, d3] }
  | _ => none }
def ForwardHopsWrongFalsely : Prop := forwardHopsRow.holds Try.pinned (OpenSpec.ofChange forwardHopsWrong)

/-- 'maquettelaw21.ForwardMore': WHATEVER THE INPUT: true; the input reads as it did. -/
def forwardMoreSpec : ChangeSpec := { name := "forwardMore", fn := fun _ => fun
  | [d1, d2, d3] => { results := [.lit (.bool true)], args := [d1, d2, d3] }
  | _ => none }
def forwardMoreRow : OpenClaim := { program := "ytmegjmiiiecnoaa", sum := "8b3173378fd0f448c5b326eda1d69dbc255e64dd5375e5c3e73dd839bcad8f98", func := "maquette/maquettelaw21.ForwardMore", spec := "forwardMore", plainKeys := false, apart := false }
def ForwardMoreSaid : Prop := forwardMoreRow.holds Try.pinned (OpenSpec.ofChange forwardMoreSpec)

/-- ITS FALSE NEIGHBOUR: 'it returns false'. Refute it at one input. -/
def forwardMoreWrong : ChangeSpec := { name := "forwardMore", fn := fun _ => fun
  | [d1, d2, d3] => { results := [.lit (.bool false)], args := [d1, d2, d3] }
  | _ => none }
def ForwardMoreWrongFalsely : Prop := forwardMoreRow.holds Try.pinned (OpenSpec.ofChange forwardMoreWrong)

/-- 'maquettelaw13.LowerBare': WHATEVER THE INPUT: true; the input reads as it did. -/
def lowerBareSpec : ChangeSpec := { name := "lowerBare", fn := fun _ => fun
  | [d1, d2] => { results := [.lit (.bool true)], args := [d1, d2] }
  | _ => none }
def lowerBareRow : OpenClaim := { program := "ytmegjmiiiecnoaa", sum := "8b3173378fd0f448c5b326eda1d69dbc255e64dd5375e5c3e73dd839bcad8f98", func := "maquette/maquettelaw13.LowerBare", spec := "lowerBare", plainKeys := false, apart := false }
def LowerBareSaid : Prop := lowerBareRow.holds Try.pinned (OpenSpec.ofChange lowerBareSpec)

/-- ITS FALSE NEIGHBOUR: 'it returns false'. Refute it at one input. -/
def lowerBareWrong : ChangeSpec := { name := "lowerBare", fn := fun _ => fun
  | [d1, d2] => { results := [.lit (.bool false)], args := [d1, d2] }
  | _ => none }
def LowerBareWrongFalsely : Prop := lowerBareRow.holds Try.pinned (OpenSpec.ofChange lowerBareWrong)

/-- 'maquettelaw13.LowerWay': WHATEVER THE INPUT: true; the input reads as it did. -/
def lowerWaySpec : ChangeSpec := { name := "lowerWay", fn := fun _ => fun
  | [d1, d2] => { results := [.lit (.bool true)], args := [d1, d2] }
  | _ => none }
def lowerWayRow : OpenClaim := { program := "ytmegjmiiiecnoaa", sum := "8b3173378fd0f448c5b326eda1d69dbc255e64dd5375e5c3e73dd839bcad8f98", func := "maquette/maquettelaw13.LowerWay", spec := "lowerWay", plainKeys := false, apart := false }
def LowerWaySaid : Prop := lowerWayRow.holds Try.pinned (OpenSpec.ofChange lowerWaySpec)

/-- ITS FALSE NEIGHBOUR: 'it returns false'. Refute it at one input. -/
def lowerWayWrong : ChangeSpec := { name := "lowerWay", fn := fun _ => fun
  | [d1, d2] => { results := [.lit (.bool false)], args := [d1, d2] }
  | _ => none }
def LowerWayWrongFalsely : Prop := lowerWayRow.holds Try.pinned (OpenSpec.ofChange lowerWayWrong)

/- THE SECOND FORM. 'bulk': how many values and letters a reading holds, each counted each time it is reached (what is shared counts as often as it is met; a slice's spare places count too). A statement '..UptoSaid' is the law's where the arguments, and the package variables that the reading takes, are together of bulk at most 1048576: NARROWER than '..Said'. Prove '..Said' where nothing that the law and all that it calls make is longer than what came in: it says more and counts as full. Else prove '..UptoSaid'. A law counts once. -/
mutual
def uptoBulk {H : Type} : DataW H → Nat
  | .lit (.string bytes) => bytes.length + 1
  | .lit _ => 1
  | .nil => 1
  | .ptr d => uptoBulk d + 1
  | .slice elems spare => uptoBulkAll elems + uptoBulkAll spare + 1
  | .agg parts => uptoBulkAll parts + 1
  | .iface _ d => uptoBulk d + 1
  | .map entries => uptoBulkEntries entries + 1
  | .held _ => 1
def uptoBulkAll {H : Type} : List (DataW H) → Nat
  | [] => 0
  | d :: r => uptoBulk d + uptoBulkAll r
def uptoBulkEntries {H : Type} : List (Lit × DataW H) → Nat
  | [] => 0
  | x :: r => uptoBulkEntry x + uptoBulkEntries r
def uptoBulkEntry {H : Type} : Lit × DataW H → Nat
  | (.string bytes, d) => bytes.length + uptoBulk d + 1
  | (_, d) => uptoBulk d + 1
 end
def uptoSmall : (H : Type) → List (DataW H) → Bool := fun _ ds => decide (uptoBulkAll ds ≤ 1048576)
def OpenSpec.upto (s : _root_.Go.ChangeSpec) : _root_.Go.OpenSpec := { _root_.Go.OpenSpec.ofChange s with cond := some uptoSmall }

/-- 'maquettelaw21.ForwardLoops', WHERE WHAT IT READS IS OF BULK AT MOST 1048576: true; the input reads as it did. -/
def forwardLoopsUptoRow : OpenClaim := { program := "ytmegjmiiiecnoaa", sum := "8b3173378fd0f448c5b326eda1d69dbc255e64dd5375e5c3e73dd839bcad8f98", func := "maquette/maquettelaw21.ForwardLoops", spec := "forwardLoops", recurses := true, plainKeys := false, apart := false, narrowed := true }
def ForwardLoopsUptoSaid : Prop := forwardLoopsUptoRow.holds Try.pinned (OpenSpec.upto forwardLoopsSpec)

/-- 'maquettelaw21.ForwardStep', WHERE WHAT IT READS IS OF BULK AT MOST 1048576: true; the input reads as it did. -/
def forwardStepUptoRow : OpenClaim := { program := "ytmegjmiiiecnoaa", sum := "8b3173378fd0f448c5b326eda1d69dbc255e64dd5375e5c3e73dd839bcad8f98", func := "maquette/maquettelaw21.ForwardStep", spec := "forwardStep", unfollowed := true, recurses := true, plainKeys := false, apart := false, narrowed := true }
def ForwardStepUptoSaid : Prop := forwardStepUptoRow.holds Try.pinned (OpenSpec.upto forwardStepSpec)

/-- 'maquettelaw21.ForwardHops', WHERE WHAT IT READS IS OF BULK AT MOST 1048576: true; the input reads as it did. -/
def forwardHopsUptoRow : OpenClaim := { program := "ytmegjmiiiecnoaa", sum := "8b3173378fd0f448c5b326eda1d69dbc255e64dd5375e5c3e73dd839bcad8f98", func := "maquette/maquettelaw21.ForwardHops", spec := "forwardHops", recurses := true, plainKeys := false, apart := false, narrowed := true }
def ForwardHopsUptoSaid : Prop := forwardHopsUptoRow.holds Try.pinned (OpenSpec.upto forwardHopsSpec)

/-- 'maquettelaw21.ForwardMore', WHERE WHAT IT READS IS OF BULK AT MOST 1048576: true; the input reads as it did. -/
def forwardMoreUptoRow : OpenClaim := { program := "ytmegjmiiiecnoaa", sum := "8b3173378fd0f448c5b326eda1d69dbc255e64dd5375e5c3e73dd839bcad8f98", func := "maquette/maquettelaw21.ForwardMore", spec := "forwardMore", plainKeys := false, apart := false, narrowed := true }
def ForwardMoreUptoSaid : Prop := forwardMoreUptoRow.holds Try.pinned (OpenSpec.upto forwardMoreSpec)

/-- 'maquettelaw13.LowerBare', WHERE WHAT IT READS IS OF BULK AT MOST 1048576: true; the input reads as it did. -/
def lowerBareUptoRow : OpenClaim := { program := "ytmegjmiiiecnoaa", sum := "8b3173378fd0f448c5b326eda1d69dbc255e64dd5375e5c3e73dd839bcad8f98", func := "maquette/maquettelaw13.LowerBare", spec := "lowerBare", plainKeys := false, apart := false, narrowed := true }
def LowerBareUptoSaid : Prop := lowerBareUptoRow.holds Try.pinned (OpenSpec.upto lowerBareSpec)

/-- 'maquettelaw13.LowerWay', WHERE WHAT IT READS IS OF BULK AT MOST 1048576: true; the input reads as it did. -/
def lowerWayUptoRow : OpenClaim := { program := "ytmegjmiiiecnoaa", sum := "8b3173378fd0f448c5b326eda1d69dbc255e64dd5375e5c3e73dd839bcad8f98", func := "maquette/maquettelaw13.LowerWay", spec := "lowerWay", plainKeys := false, apart := false, narrowed := true }
def LowerWayUptoSaid : Prop := lowerWayUptoRow.holds Try.pinned (OpenSpec.upto lowerWaySpec)

end Rows
end Go.Proofs.Ytmegjmiiiecnoaa
