/- Words of this work: a region that draws its order, whose callees lay blocks of their own: one walk. Nothing here names the program. -/
import Derived.Test.YtncebbpnmpgjiaaMq
import Derived.Lib.QuietBelow
import Derived.BigQuiet
import Derived.Deep.RegionWith
namespace Go.Proofs.Ytncebbpnmpgjiaa.Mq
open Go.RowKit Go.Sort
set_option linter.unusedVariables false
theorem mem_of_below {W W' : World} (h : Below W.heap.size W W') : Mem W W' [] [] :=
  ⟨⟨⟨h.os, h.tape, h.output, h.size, fun k hk _ => h.block k hk⟩, fun _ h => h.elim⟩, fun _ => False, fun _ => False, fun _ h => h.elim, fun _ h => h.elim, fun _ h => h.elim, fun _ h => h.elim, fun _ h => h.elim, (fun a h => by cases h), trivial⟩
theorem mem_of_regrown {W W' : World} {p : Regrown} (h : W' = grow (redrawn W p.d) p.os) : Mem W W' [] [] := by
  subst h
  exact mem_of_below (below_regrown _ _ _)
/-- A callee's contract, met in a world of the class. -/
theorem calls_regrown {P : Program} {f : FuncId} {args : Array Value} {w : World} {d : Nat} {os : Array Obj} {v : Value}
    (h : ∀ W, Calls P f args W fun e W' => e = .returned v ∧ Mem W W' [] []) : Calls P f args (grow (redrawn w d) os) fun e w'' => e = .returned v ∧ ∃ p : Regrown, w'' = grow (redrawn w p.d) p.os :=
  Calls.regrown_of ((h _).mono fun e W' ⟨he, hm⟩ => ⟨he, MemM.below hm⟩)
/-- .. of one that leaves the world as it was. -/
theorem calls_regrown' {P : Program} {f : FuncId} {args : Array Value} {w : World} {d : Nat} {os : Array Obj} {v : Value}
    (h : ∀ W, Calls P f args W fun e W' => e = .returned v ∧ W = W') : Calls P f args (grow (redrawn w d) os) fun e w'' => e = .returned v ∧ ∃ p : Regrown, w'' = grow (redrawn w p.d) p.os :=
  calls_regrown fun W => (h W).mono fun e W' ⟨he, hm⟩ => ⟨he, by subst hm; exact MemM.start W⟩
end Go.Proofs.Ytncebbpnmpgjiaa.Mq
