/-
  No cell of these rows narrows 'for every input' (looked for: loops, veiled, ifaces, maps, wideKeys, modest, calm, conditions, laid).
  DERIVED. THE GIVEN ROWS OF THIS SEAT. 4 by the template 'for every input the law returns true; each argument reads behind the call as it read before'; 0 by the template 'total and deterministic' (their statements: YtcagkdgpoijkoaaTotals.lean).
  GIVEN WITH THE SEED: the statements are not yours to turn. If you find one false, say at which input.
  Laid BY PROGRAM, IN A SANDBOX (cutbox-rows.mjs): the forced cells as the released guide's own fill.sh prints them over the translation 520a005a865c8c52… (all of the seat's roots in one cut). By AI agents, Wed Nov 11 2026. No macro, syntax, notation, axiom, sorry.
-/
import Derived.Test.YtcagkdgpoijkoaaChecked
import GoSem.Claim
import GoSem.ClaimJoined
import GoSem.ClaimMapViews
import Derived.JoinedTies
import Derived.KernelRfl
namespace Go.Proofs.Ytcagkdgpoijkoaa
/- THE CELL 'sum', in the pinned program and in every row, IS THE sha256 OF THE DUMP (.gsa) THAT YtcagkdgpoijkoaaProg.lean LOADS. Nothing in Lean hashes anything: it is a label: what it is worth is what the hold of that sum in a sandbox is worth. -/
noncomputable def Try.pinned : Pinned := { name := "ytcagkdgpoijkoaa", sum := "520a005a865c8c524a18c0e1e7d6271ffdc875323ed42e5a0efbecd3e818cd95", checked := Try.checked }
namespace Rows
def none {H : Type} : Left H := { results := [], args := [] }

/-- 'maquettelaw21.ForwardOf': WHATEVER THE INPUT: true; the input reads as it did. -/
def forwardOfSpec : ChangeSpec := { name := "forwardOf", fn := fun _ => fun
  | [d1, d2, d3, d4] => { results := [.lit (.bool true)], args := [d1, d2, d3, d4] }
  | _ => none }
def forwardOfRow : OpenClaim := { program := "ytcagkdgpoijkoaa", sum := "520a005a865c8c524a18c0e1e7d6271ffdc875323ed42e5a0efbecd3e818cd95", func := "maquette/maquettelaw21.ForwardOf", spec := "forwardOf", unfollowed := true, recurses := true, apart := false }
def ForwardOfSaid : Prop := forwardOfRow.holds Try.pinned (OpenSpec.ofChange forwardOfSpec)

/-- ITS FALSE NEIGHBOUR: 'it returns false'. Refute it at one input. -/
def forwardOfWrong : ChangeSpec := { name := "forwardOf", fn := fun _ => fun
  | [d1, d2, d3, d4] => { results := [.lit (.bool false)], args := [d1, d2, d3, d4] }
  | _ => none }
def ForwardOfWrongFalsely : Prop := forwardOfRow.holds Try.pinned (OpenSpec.ofChange forwardOfWrong)

/-- 'maquettelaw21.ForwardEnds': WHATEVER THE INPUT: true; the input reads as it did. -/
def forwardEndsSpec : ChangeSpec := { name := "forwardEnds", fn := fun _ => fun
  | [d1, d2] => { results := [.lit (.bool true)], args := [d1, d2] }
  | _ => none }
def forwardEndsRow : OpenClaim := { program := "ytcagkdgpoijkoaa", sum := "520a005a865c8c524a18c0e1e7d6271ffdc875323ed42e5a0efbecd3e818cd95", func := "maquette/maquettelaw21.ForwardEnds", spec := "forwardEnds", unfollowed := true, recurses := true, apart := false }
def ForwardEndsSaid : Prop := forwardEndsRow.holds Try.pinned (OpenSpec.ofChange forwardEndsSpec)

/-- ITS FALSE NEIGHBOUR: 'it returns false'. Refute it at one input. -/
def forwardEndsWrong : ChangeSpec := { name := "forwardEnds", fn := fun _ => fun
  | [d1, d2] => { results := [.lit (.bool false)], args := [d1, d2] }
  | _ => none }
def ForwardEndsWrongFalsely : Prop := forwardEndsRow.holds Try.pinned (OpenSpec.ofChange forwardEndsWrong)

/-- 'maquettelaw23.LiftMore': WHATEVER THE INPUT: true; the input reads as it did. -/
def liftMoreSpec : ChangeSpec := { name := "liftMore", fn := fun _ => fun
  | [d1, d2, d3, d4] => { results := [.lit (.bool true)], args := [d1, d2, d3, d4] }
  | _ => none }
def liftMoreRow : OpenClaim := { program := "ytcagkdgpoijkoaa", sum := "520a005a865c8c524a18c0e1e7d6271ffdc875323ed42e5a0efbecd3e818cd95", func := "maquette/maquettelaw23.LiftMore", spec := "liftMore", unfollowed := true, recurses := true, apart := false }
def LiftMoreSaid : Prop := liftMoreRow.holds Try.pinned (OpenSpec.ofChange liftMoreSpec)

/-- ITS FALSE NEIGHBOUR: 'it returns false'. Refute it at one input. -/
def liftMoreWrong : ChangeSpec := { name := "liftMore", fn := fun _ => fun
  | [d1, d2, d3, d4] => { results := [.lit (.bool false)], args := [d1, d2, d3, d4] }
  | _ => none }
def LiftMoreWrongFalsely : Prop := liftMoreRow.holds Try.pinned (OpenSpec.ofChange liftMoreWrong)

/-- 'maquettelaw23.LiftAnswers': WHATEVER THE INPUT: true; the input reads as it did. -/
def liftAnswersSpec : ChangeSpec := { name := "liftAnswers", fn := fun _ => fun
  | [d1, d2, d3, d4, d5] => { results := [.lit (.bool true)], args := [d1, d2, d3, d4, d5] }
  | _ => none }
def liftAnswersRow : OpenClaim := { program := "ytcagkdgpoijkoaa", sum := "520a005a865c8c524a18c0e1e7d6271ffdc875323ed42e5a0efbecd3e818cd95", func := "maquette/maquettelaw23.LiftAnswers", spec := "liftAnswers", unfollowed := true, recurses := true, apart := false }
def LiftAnswersSaid : Prop := liftAnswersRow.holds Try.pinned (OpenSpec.ofChange liftAnswersSpec)

/-- ITS FALSE NEIGHBOUR: 'it returns false'. Refute it at one input. -/
def liftAnswersWrong : ChangeSpec := { name := "liftAnswers", fn := fun _ => fun
  | [d1, d2, d3, d4, d5] => { results := [.lit (.bool false)], args := [d1, d2, d3, d4, d5] }
  | _ => none }
def LiftAnswersWrongFalsely : Prop := liftAnswersRow.holds Try.pinned (OpenSpec.ofChange liftAnswersWrong)

/- THE SECOND FORM. 'bulk': how many values and letters a reading holds, each counted each time it is reached (what is shared counts as often as it is met; a slice's spare places count too). A statement '..UptoSaid' is the law's where the arguments, and the package variables that the reading takes, are together of bulk at most 1048576: NARROWER than '..Said'. Prove '..Said' where nothing that the law and all that it calls make is longer than what came in: it says more and counts as full. Else prove '..UptoSaid'. A law counts once. -/
mutual
def uptoBulk {H : Type} : DataW H → Nat
  | .lit (.string bytes) => bytes.length + 1
  | .lit _ => 1
  | .nil => 1
  | .ptr d => uptoBulk d + 1
  | .slice elems spare => uptoBulkAll elems + uptoBulkAll spare + 1
  | .agg parts => uptoBulkAll parts + 1
  | .iface _ d => uptoBulk d + 1
  | .map entries => uptoBulkEntries entries + 1
  | .held _ => 1
def uptoBulkAll {H : Type} : List (DataW H) → Nat
  | [] => 0
  | d :: r => uptoBulk d + uptoBulkAll r
def uptoBulkEntries {H : Type} : List (Lit × DataW H) → Nat
  | [] => 0
  | x :: r => uptoBulkEntry x + uptoBulkEntries r
def uptoBulkEntry {H : Type} : Lit × DataW H → Nat
  | (.string bytes, d) => bytes.length + uptoBulk d + 1
  | (_, d) => uptoBulk d + 1
 end
def uptoSmall : (H : Type) → List (DataW H) → Bool := fun _ ds => decide (uptoBulkAll ds ≤ 1048576)
def OpenSpec.upto (s : _root_.Go.ChangeSpec) : _root_.Go.OpenSpec := { _root_.Go.OpenSpec.ofChange s with cond := some uptoSmall }

/-- 'maquettelaw21.ForwardOf', WHERE WHAT IT READS IS OF BULK AT MOST 1048576: true; the input reads as it did. -/
def forwardOfUptoRow : OpenClaim := { program := "ytcagkdgpoijkoaa", sum := "520a005a865c8c524a18c0e1e7d6271ffdc875323ed42e5a0efbecd3e818cd95", func := "maquette/maquettelaw21.ForwardOf", spec := "forwardOf", unfollowed := true, recurses := true, apart := false, narrowed := true }
def ForwardOfUptoSaid : Prop := forwardOfUptoRow.holds Try.pinned (OpenSpec.upto forwardOfSpec)

/-- 'maquettelaw21.ForwardEnds', WHERE WHAT IT READS IS OF BULK AT MOST 1048576: true; the input reads as it did. -/
def forwardEndsUptoRow : OpenClaim := { program := "ytcagkdgpoijkoaa", sum := "520a005a865c8c524a18c0e1e7d6271ffdc875323ed42e5a0efbecd3e818cd95", func := "maquette/maquettelaw21.ForwardEnds", spec := "forwardEnds", unfollowed := true, recurses := true, apart := false, narrowed := true }
def ForwardEndsUptoSaid : Prop := forwardEndsUptoRow.holds Try.pinned (OpenSpec.upto forwardEndsSpec)

/-- 'maquettelaw23.LiftMore', WHERE WHAT IT READS IS OF BULK AT MOST 1048576: true; the input reads as it did. -/
def liftMoreUptoRow : OpenClaim := { program := "ytcagkdgpoijkoaa", sum := "520a005a865c8c524a18c0e1e7d6271ffdc875323ed42e5a0efbecd3e818cd95", func := "maquette/maquettelaw23.LiftMore", spec := "liftMore", unfollowed := true, recurses := true, apart := false, narrowed := true }
def LiftMoreUptoSaid : Prop := liftMoreUptoRow.holds Try.pinned (OpenSpec.upto liftMoreSpec)

/-- 'maquettelaw23.LiftAnswers', WHERE WHAT IT READS IS OF BULK AT MOST 1048576: true; the input reads as it did. -/
def liftAnswersUptoRow : OpenClaim := { program := "ytcagkdgpoijkoaa", sum := "520a005a865c8c524a18c0e1e7d6271ffdc875323ed42e5a0efbecd3e818cd95", func := "maquette/maquettelaw23.LiftAnswers", spec := "liftAnswers", unfollowed := true, recurses := true, apart := false, narrowed := true }
def LiftAnswersUptoSaid : Prop := liftAnswersUptoRow.holds Try.pinned (OpenSpec.upto liftAnswersSpec)

end Rows
end Go.Proofs.Ytcagkdgpoijkoaa
