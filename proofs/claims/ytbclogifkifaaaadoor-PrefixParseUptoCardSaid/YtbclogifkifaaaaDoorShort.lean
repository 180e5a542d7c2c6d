/- Words of this work: lemmas whose side proofs are defaults, so that printed walks are short. Nothing here names the program. -/
import Derived.Test.YtbclogifkifaaaaDoorWWords
import Derived.Test.YtbclogifkifaaaaDoorWLast
import Derived.Test.YtbclogifkifaaaaDoorWTab
import Derived.Test.YtbclogifkifaaaaDoorWApart
import Derived.Test.YtbclogifkifaaaaDoorWN
import Derived.Test.YtbclogifkifaaaaDoorWShare
import Derived.Test.YtbclogifkifaaaaDoorWQPut
import Derived.Test.YtbclogifkifaaaaDoorWMore
import Derived.WalkKit
namespace Go.Proofs.YtbclogifkifaaaaDoor.Short
open Go.RowKit Go.Proofs.YtbclogifkifaaaaDoorW.PrintWords Go.Proofs.YtbclogifkifaaaaDoorW.PrintLast
set_option linter.unusedVariables false
/-- A row of Bools by a number's bits. -/
def mk (n m : Nat) : Array Bool := ((List.range n).map fun i => m.testBit i).toArray
section
variable {w W W0 w1 : World} {g : Nat} {o : Obj}
theorem blk_far' {g' i : Nat} {t : TypeId} {cs : Array Value} {u : Value} (hp : Aside0 (g ≠ g')) (h : W.heap[g]? = some (.cells cs t (0, 0))) : (W.setCell ⟨g', i, none⟩ u).heap[g]? = some (.cells cs t (0, 0)) := blk_far h (p := ⟨g', i, none⟩) hp.out u
theorem bel (h : Below w.heap.size w W := by repeat (first | (with_reducible first | exact HB.out | apply below_alloc | apply pw_below_drewN | apply below_drew1 | refine below_set ?_ (Aside0.out (by with_reducible assumption))) | exact HB.out)) : Below w.heap.size w W := h
theorem bst (hb : Below W.heap.size W w1) (h : Below w.heap.size w W := by repeat (first | (with_reducible first | exact HB.out | apply below_alloc | apply pw_below_drewN | apply below_drew1 | refine below_set ?_ (Aside0.out (by with_reducible assumption))) | exact HB.out)) : Aside0 (Below w.heap.size w w1) := ⟨below_step h hb⟩
theorem bge (hg : g = W.heap.size) (h : Below w.heap.size w W := by repeat (first | (with_reducible first | exact HB.out | apply below_alloc | apply pw_below_drewN | apply below_drew1 | refine below_set ?_ (Aside0.out (by with_reducible assumption))) | exact HB.out)) : Aside0 (w.heap.size ≤ g) := ⟨by rw [hg]; exact below_size h⟩
theorem bkb (h : Aside0 (W0.heap[g]? = some o)) (hb : Below W.heap.size W w1) (k : W.heap[g]? = some o := by (with_reducible repeat (first | refine blk_drewN ?_ _ | refine blk_drew ?_ | refine blk_alloc ?_ _ | (apply blk_far'; with_reducible assumption))); exact Aside0.out (by with_reducible assumption)) : Aside0 (w1.heap[g]? = some o) := ⟨blk_below k hb⟩
theorem bne {g' : Nat} (h : Aside0 (W0.heap[g]? = some o)) (hg : g' = W.heap.size) (k : W.heap[g]? = some o := by (with_reducible repeat (first | refine blk_drewN ?_ _ | refine blk_drew ?_ | refine blk_alloc ?_ _ | (apply blk_far'; with_reducible assumption))); exact Aside0.out (by with_reducible assumption)) : Aside0 (g ≠ g') := ⟨by rw [hg]; exact Nat.ne_of_lt (blk_lt k)⟩
theorem bnf {g' : Nat} (h : Aside0 (W0.heap[g]? = some o)) (hg : g' = W.heap.size) (k : W.heap[g]? = some o := by (with_reducible repeat (first | refine blk_drewN ?_ _ | refine blk_drew ?_ | refine blk_alloc ?_ _ | (apply blk_far'; with_reducible assumption))); exact Aside0.out (by with_reducible assumption)) : Aside0 (g' ≠ g) := ⟨by rw [hg]; exact Nat.ne_of_gt (blk_lt k)⟩
/-- A variable in memory, behind stores. -/
theorem bkq (h : Aside0 (W0.heap[g]? = some o)) (k : W.heap[g]? = some o := by (with_reducible repeat (first | refine blk_drewN ?_ _ | refine blk_drew ?_ | refine blk_alloc ?_ _ | (apply blk_far'; with_reducible assumption))); exact Aside0.out (by with_reducible assumption)) : W.heap[g]? = some o := k
theorem bkp {t : TypeId} {cs cs1 cs' : Array Value} (h : Aside0 (W0.heap[g]? = some (.cells cs t (0, 0))))
    (k : W.heap[g]? = some (.cells cs1 t (0, 0)) := by (with_reducible repeat (first | refine blk_drewN ?_ _ | refine blk_drew ?_ | refine blk_alloc ?_ _ | (apply blk_far'; with_reducible assumption) | apply blk_set)); exact Aside0.out (by with_reducible assumption))
    (e : cs1 = cs' := by first | with_reducible rfl | (simp only [List.setIfInBounds_toArray, List.set_cons_zero, List.set_cons_succ]; done) | (simp; done) | (simp [*]; done) | (simp; omega)) : W.heap[g]? = some (.cells cs' t (0, 0)) := e ▸ k
theorem kR {α : Type} {d : Kd α} {e b : Nat} {ok : Nat → Prop} {v : Value} {xs : List α} (h : Aside0 (Kd.R d e W0 b ok v xs)) (k : Kd.R d e W b ok v xs := by (with_reducible repeat (first | apply Kd.R_alloc | apply Kd.R_drewN | apply Kd.R_drew)); exact Aside0.out (by with_reducible assumption)) : Kd.R d e W b ok v xs := k
theorem bc2 {t : TypeId} {v0 v1 : Value} (h : Aside0 (w.heap[g]? = some (.cells #[v0, v1] t (0, 0)))) : w.cell? ⟨g, 0, none⟩ = some v0 ∧ w.cell? ⟨g, 1, none⟩ = some v1 ∧ w.frozen? ⟨g, 0, none⟩ = false ∧ w.frozen? ⟨g, 1, none⟩ = false := ⟨(blk_cell h.out 0).trans rfl, (blk_cell h.out 1).trans rfl, blk_frozen h.out 0, blk_frozen h.out 1⟩
end
section
variable {P : Program} {ops : Array Oper} {rest : List Oper} {o : Oper} {a : Act} {Q : Exit → Act → World → Prop} {W : World}
theorem bx (N : Tmp) {cs : Array Value} {t : TypeId} (hgd : o.guard = none := by rfl) (hd : o.dst = some N := by rfl)
    (hrun : (execOp a.eval o).run P W = .ok (.value (.pointer (some ⟨W.heap.size, 0, none⟩))) (W.alloc (.cells cs t (0, 0))) := by first | (go_simp; done) | (go_simp; rfl))
    (h : ∀ g, g = W.heap.size → ∀ w1, w1.heap[g]? = some (.cells cs t (0, 0)) → Below W.heap.size W w1 → wpList P ops Q rest (a.put o.dst (.pointer (some ⟨g, 0, none⟩))) w1) : wpList P ops Q (o :: rest) a W :=
  box_event hgd hd hrun h
theorem gl (N : Option Tmp) {f : FuncId} {fn : Func} {as : Array Operand} {ts : Array TypeId} (hf : P.funcs[f]? = some fn) (args : Array Value)
    (h : Calls P f args W fun e w' => ∃ v, e = .returned v ∧ wpList P ops Q rest (a.put N v) w')
    (hd : o.dst = N := by rfl) (hg : o.guard = none := by rfl) (hname : (fn.name == "runtime.NumGoroutine") = false := by kernel_rfl) (hb : fn.body.isSome = true := by rfl)
    (hop : o.op = .call { callee := .value (.func f), args := as, argTypes := ts } := by rfl) (hargs : as.map a.eval = args := by ((try simp only [List.map_toArray, List.map_cons, List.map_nil]); first | done | rfl | (simp only [List.length_drop, List.length_take]; rfl))) : wpList P ops Q (o :: rest) a W :=
  goesL_ N hd hg hf hname hb args hop hargs h
end
section
variable {w : World} {g : Nat} {t : TypeId} {cs : Array Value}
abbrev CE2 (w : World) (g : Nat) (v0 v1 : Value) : Prop := w.cell? ⟨g, 0, none⟩ = some v0 ∧ w.cell? ⟨g, 1, none⟩ = some v1
theorem he2 {v0 v1 : Value} (h : Aside0 (w.heap[g]? = some (.cells cs t (0, 0)))) (e0 : cs[0]? = some v0 := by rfl) (e1 : cs[1]? = some v1 := by rfl) : CE2 w g v0 v1 := ⟨(blk_cell h.out 0).trans e0, (blk_cell h.out 1).trans e1⟩
end
section
variable {P : Program} {ops : Array Oper} {Q : Exit → Act → World → Prop} {md : Region.Mode} {S : World → Prop} {ds : List Nat} {T : Bool × List (List Nat × List Nat)} {B : List Nat}
/-- A number, an address: the value tells itself. -/
theorem pu {oi : Oper} {v : Value} {fuel : Nat} {l : Array Bool} {a a' : Act} {w : World} (HT : Aside0 (rtab md ops = T)) (i : Nat) (N : Option Tmp) (l' : Array Bool)
    (h : wpAnyLast P md ops Q S ds fuel l' a' w) (hi : ops[i]? = some oi := by rfl) (hN : oi.dst = N := by rfl) (hc : anyT T l.toList l'.toList i = true := by kernel_rfl)
    (hQ : ∀ c a w, Q (.panic c) (a.put oi.dst v) w → Q (.panic c) a w := by exact fun _ _ _ h => h) (hy : Yields P ops oi v a := by (refine Or.inl ⟨by rfl, ?_⟩; intro w'; go_simp; with_reducible rfl)) (ha : a.put N v = a' := by (simp only [Act.put, List.setIfInBounds_toArray, List.set_cons_zero, List.set_cons_succ, i64_w, i32_w]; rfl)) :
    wpAnyLast P md ops Q S ds (fuel + 1) l a w := pure_ l' hi hN (any_of HT.out hc) hQ hy ha h
/-- An operation that isn't wanted on this way. -/
theorem pun {oi : Oper} {fuel : Nat} {l : Array Bool} {a a' : Act} {w : World} (HT : Aside0 (rtab md ops = T)) (i : Nat) (N : Option Tmp) (l' : Array Bool)
    (h : wpAnyLast P md ops Q S ds fuel l' a' w) (hi : ops[i]? = some oi := by rfl) (hN : oi.dst = N := by rfl) (hc : anyT T l.toList l'.toList i = true := by kernel_rfl)
    (hQ : ∀ c a w, Q (.panic c) (a.put oi.dst undef) w → Q (.panic c) a w := by exact fun _ _ _ h => h) (hy : Yields P ops oi undef a := by exact Or.inr ⟨by rfl, rfl⟩) (ha : a.put N undef = a' := by (simp only [Act.put, List.setIfInBounds_toArray, List.set_cons_zero, List.set_cons_succ, i64_w, i32_w]; rfl)) :
    wpAnyLast P md ops Q S ds (fuel + 1) l a w := pure_ l' hi hN (any_of HT.out hc) hQ hy ha h
/-- A read of what is held. -/
theorem tk {oi : Oper} {v : Value} {fuel : Nat} {l : Array Bool} {a a' : Act} {w : World} (HT : Aside0 (rtab md ops = T)) (HW : Aside0 (waitsOk T.2 B = true)) (i : Nat) (N : Option Tmp) (l' : Array Bool) (hS : S w)
    (h : wpAnyLast P md ops Q S ds fuel l' a' w) (hi : ops[i]? = some oi := by rfl) (hN : oi.dst = N := by rfl) (hc : takeW T B ds l.toList l'.toList i = true := by kernel_rfl)
    (hQ : ∀ c a w, Q (.panic c) (a.put oi.dst v) w → Q (.panic c) a w := by exact fun _ _ _ h => h) (hy : YieldsIf P ops S oi v a := by (refine Or.inl ⟨by rfl, ?_⟩; intro w'; (try simp only [and_imp]); intros; go_simp; with_reducible rfl)) (ha : a.put N v = a' := by (simp only [Act.put, List.setIfInBounds_toArray, List.set_cons_zero, List.set_cons_succ, i64_w, i32_w]; rfl)) :
    wpAnyLast P md ops Q S ds (fuel + 1) l a w := take_ l' hi hN (take_ofW HT.out HW.out hc) hQ hy hS ha h
theorem on {oi : Oper} {fuel : Nat} {l : Array Bool} {a : Act} {w : World} (HT : Aside0 (rtab md ops = T)) (i : Nat) (N : Option Tmp) (l' : Array Bool)
    (h : ∀ K : Act → World → Prop, Shut (∀ a' w', S w' → (S w' → wpAnyLast P md ops Q S ds fuel l' a' w') → K a' w') → if Region.wanted oi (yielded ops a.tmps) = true then Oper.wp P oi a w K Q else K (a.put N undef) w)
    (hi : ops[i]? = some oi := by rfl) (hN : oi.dst = N := by rfl) (hc : (readyT T.2 l.toList == [i] && l.toList.set i true == l'.toList) = true := by kernel_rfl) (hd : i ∉ ds := by decide) :
    wpAnyLast P md ops Q S ds (fuel + 1) l a w := one_ l' hi hN (one_of HT.out hc) hd h
theorem la {oi : Oper} {fuel : Nat} {l : Array Bool} {a : Act} {w : World} (HT : Aside0 (rtab md ops = T)) (i : Nat) (N : Option Tmp) (l' : Array Bool)
    (h : ∀ K : Act → World → Prop, Shut (∀ a' w', wpAnyLast P md ops Q S ds fuel l' a' w' → K a' w') → if Region.wanted oi (yielded ops a.tmps) = true then Oper.wp P oi a w K Q else K (a.put N undef) w)
    (hi : ops[i]? = some oi := by rfl) (hN : oi.dst = N := by rfl) (hc : (readyT T.2 l.toList == [i] && l.toList.set i true == l'.toList) = true := by kernel_rfl) (hd : i ∈ ds := by decide) :
    wpAnyLast P md ops Q S ds (fuel + 1) l a w := last_ l' hi hN (one_of HT.out hc) hd h
theorem go1 {oi : Oper} {N : Option Tmp} {a : Act} {w : World} {K : Act → World → Prop} {f : FuncId} {fn : Func} {as : Array Operand} {ts : Array TypeId} (hf : P.funcs[f]? = some fn) (args : Array Value)
    (h : Calls P f args w fun e w' => ∃ v, e = .returned v ∧ K (a.put N v) w') (hname : (fn.name == "runtime.NumGoroutine") = false := by kernel_rfl) (hb : fn.body.isSome = true := by rfl)
    (hw : Region.wanted oi (yielded ops a.tmps) = true := by rfl) (hN : oi.dst = N := by rfl) (hop : oi.op = .call { callee := .value (.func f), args := as, argTypes := ts } := by rfl) (hargs : as.map a.eval = args := by ((try simp only [List.map_toArray, List.map_cons, List.map_nil]); first | done | rfl | (simp only [List.length_drop, List.length_take]; rfl))) :
    if Region.wanted oi (yielded ops a.tmps) = true then Oper.wp P oi a w K Q else K (a.put N undef) w := goes_ hf hname hb args hw hN hop hargs h
theorem nm {fuel : Nat} {l : Array Bool} {a a0 a' : Act} {v : Value} {w : World} (N : Option Tmp) (h : wpAnyLast P md ops Q S ds fuel l a' w) (h0 : a = a0.put N v := by rfl) (ha : a0.put N v = a' := by (simp only [Act.put, List.setIfInBounds_toArray, List.set_cons_zero, List.set_cons_succ, i64_w, i32_w]; rfl)) : wpAnyLast P md ops Q S ds fuel l a w := norm_ (h0.trans ha) h
end
end Go.Proofs.YtbclogifkifaaaaDoor.Short
