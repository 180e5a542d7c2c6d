/- errors.As by its contracts at api.Number's target and api.Place's; these two by theirs. -/
import Derived.Test.YthodilggomedgaaDoorAs
import Derived.Test.YthodilggomedgaaDoorShort
import Derived.Test.YthodilggomedgaaDoorMq
namespace Go.Proofs.YthodilggomedgaaDoor.As
open Go.RowKit Go.Extern.Stop Go.Stop Go.Extern Go.Proofs.YthodilggomedgaaDoorW.PrintWords
set_option linter.unusedVariables false
set_option linter.unusedSimpArgs false
/-- What errors.As reads of the world. -/
abbrev ErrT (w : World) : Prop := w.cell? ⟨0, 0, none⟩ = some (rt 25)
theorem sizeF (w : World) : (sizeOf 48).run Tryd.prog w = .ok 2 w := by kernel_rfl
theorem setF (g h : Nat) (n k : Int) (o1 o2 : Value) (W : World) (hb : W.heap[h]? = some (.cells #[.int .i64 n, .int .i64 k] 48 (0, 0))) (ht : W.heap[g]? = some (.cells #[o1, o2] 48 (0, 0))) :
    (ReflectliteValue.set #[.agg #[hd 48, .pointer (some ⟨g, 0, none⟩), .int .u64 409], .agg #[hd 48, .pointer (some ⟨h, 0, none⟩), .int .u64 153]]).run Tryd.prog W = .ok (.tuple #[]) ((W.setCell ⟨g, 0, none⟩ (.int .i64 n)).setCell ⟨g, 1, none⟩ (.int .i64 k)) := by
  have c0 := blk_cell hb 0
  have c1 := blk_cell hb 1
  have d0 := blk_cell ht 0
  have f0 := blk_frozen ht 0
  have ht2 := blk_set ht 0 (.int .i64 n)
  have d1 := blk_cell ht2 1
  have f1 := blk_frozen ht2 1
  rw [rls]
  simp only [Sem.run_bind, partsFa, partsF, Result.andThen]
  simp [ReflectliteValue.flagAddr, loadVar, isAgg, underlying, Tryd.underlying48, loadCells, loadCellsFrom, sizeF, c0, c1, Result.andThen, directF, storeVar, Value.cells, storeCells, Addr.add]
  rw [run_store Tryd.prog W _ _ _ (by rfl)]
  simp [d0, f0, Result.andThen]
  rw [run_store Tryd.prog _ _ _ _ (by rfl)]
  simp [d1, f1]
set_option maxHeartbeats 8000000 in
theorem as_FE (n k : Int) (g : Nat) (old : Value) (w : World) (hg : ErrT w) (ht : w.heap[g]? = some (.cells #[old] 38 (0, 0))) :
    Calls Tryd.prog 17 #[.iface 48 (.agg #[.int .i64 n, .int .i64 k]), .iface 51 (.pointer (some ⟨g, 0, none⟩))] w fun ev w' => ev = .returned (.bool true) ∧ w' = (((((w.alloc (.cells #[.pointer (some ⟨g, 0, none⟩)] 51)).alloc (.cells #[hd 51, .pointer (some ⟨w.heap.size, 0, none⟩), .int .u64 150] 60)).alloc (.cells #[hd 51, .pointer (some ⟨w.heap.size, 0, none⟩), .int .u64 150] 60)).alloc (.cells #[.int .i64 n, .int .i64 k] 48)).alloc (.cells #[.int .i64 n] 38)).setCell ⟨g, 0, none⟩ (.int .i64 n) := by
  have h6 := @run_callFunc_extern Tryd.prog 26 _ (fun args => ReflectliteValue.unpack (args.getD 0 (.tuple #[]))) Tryd.func26 (by kernel_rfl) (by kernel_rfl) (by kernel_rfl) (by kernel_rfl)
  have h7 := @run_callFunc_extern Tryd.prog 27 _ (ReflectliteValue.methodAny (ReflectliteValue.valueError "reflectlite.Value.Type" 0) (fun t _ _ _ => ReflectliteType.toType t)) Tryd.func27 (by kernel_rfl) (by kernel_rfl) (by kernel_rfl) (by kernel_rfl)
  have h8 := @run_callFunc_extern Tryd.prog 28 _ (ReflectliteValue.method (ReflectliteValue.valueError "reflectlite.Value.IsNil" 0) ReflectliteValue.isNil) Tryd.func28 (by kernel_rfl) (by kernel_rfl) (by kernel_rfl) (by kernel_rfl)
  have h27 := @run_callFunc_extern Tryd.prog 94 _ (ReflectliteType.abiMethod fun t => do pure (.int .u8 (← Rtype.kind t))) Tryd.func94 (by kernel_rfl) (by kernel_rfl) (by kernel_rfl) (by kernel_rfl)
  have h37 := @run_callFunc_extern Tryd.prog 106 _ (ReflectliteType.method ReflectliteType.elem) Tryd.func106 (by kernel_rfl) (by kernel_rfl) (by kernel_rfl) (by kernel_rfl)
  have h38 := @run_callFunc_extern Tryd.prog 107 _ (ReflectliteType.relation "Implements" ReflectliteType.implements_) Tryd.func107 (by kernel_rfl) (by kernel_rfl) (by kernel_rfl) (by kernel_rfl)
  have h10 := @run_callFunc_extern Tryd.prog 38 _ ReflectliteType.typeOf Tryd.func38 (by kernel_rfl) (by kernel_rfl) (by kernel_rfl) (by kernel_rfl)
  have h35 := @run_callFunc_extern Tryd.prog 104 _ (ReflectliteType.relation "AssignableTo" ReflectliteType.assignableTo) Tryd.func104 (by kernel_rfl) (by kernel_rfl) (by kernel_rfl) (by kernel_rfl)
  have h11 := @run_callFunc_extern Tryd.prog 39 _ (ReflectliteValue.method (ReflectliteValue.valueError "reflectlite.Value.Elem" 0) ReflectliteValue.elem) Tryd.func39 (by kernel_rfl) (by kernel_rfl) (by kernel_rfl) (by kernel_rfl)
  have h12 := @run_callFunc_extern Tryd.prog 40 _ ReflectliteValue.set Tryd.func40 (by kernel_rfl) (by kernel_rfl) (by kernel_rfl) (by kernel_rfl)
  have q1 := valueOfPE
  have q2 := typePE
  have q3 := methodKind
  have q4 := methodElem
  have q5 := methodImplements
  have q6 := methodAssignableTo
  have q7 := kindPE
  have q8 := kindE
  have q9 := elemPE
  have q10 := implementsE
  have q11 := typeOfE
  have q12 := assignEE
  have q13 := valueOfE
  have q14 := typeOfF
  have q15 := assignFE
  have q16 := noAsF
  have q17 := hasUnwrapF
  have q18 := methodUnwrap
  have n8 := isNilPE ⟨w.heap.size, 0, none⟩ ⟨g, 0, none⟩ ((w.alloc (.cells #[.pointer (some ⟨g, 0, none⟩)] 51)).alloc (.cells #[hd 51, .pointer (some ⟨w.heap.size, 0, none⟩), .int .u64 150] 60)) (by simp)
  have hlt : 0 < w.heap.size := by
    rcases Nat.lt_or_ge 0 w.heap.size with h | h
    · exact h
    · simp [ErrT, World.cell?, Array.getElem?_eq_none h] at hg
  have hg2 : ((w.alloc (.cells #[.pointer (some ⟨g, 0, none⟩)] 51)).alloc (.cells #[hd 51, .pointer (some ⟨w.heap.size, 0, none⟩), .int .u64 150] 60)).cell? ⟨0, 0, none⟩ = some (rt 25) := by
    rw [World.cell?_alloc_lt _ _ ⟨0, 0, none⟩ (by simp <;> omega), World.cell?_alloc_lt _ _ ⟨0, 0, none⟩ hlt]; exact hg
  have htl := blk_lt ht
  have b3 : (((w.alloc (.cells #[.pointer (some ⟨g, 0, none⟩)] 51)).alloc (.cells #[hd 51, .pointer (some ⟨w.heap.size, 0, none⟩), .int .u64 150] 60)).alloc (.cells #[hd 51, .pointer (some ⟨w.heap.size, 0, none⟩), .int .u64 150] 60)).heap[g]? = _ := blk_alloc (blk_alloc (blk_alloc ht _) _) _
  have b4 := blk_alloc (blk_alloc b3 (.cells #[.int .i64 n, .int .i64 k] 48)) (.cells #[.int .i64 n] 38)
  have el := elemVPE ⟨w.heap.size, 0, none⟩ ⟨g, 0, none⟩ ((((w.alloc (.cells #[.pointer (some ⟨g, 0, none⟩)] 51)).alloc (.cells #[hd 51, .pointer (some ⟨w.heap.size, 0, none⟩), .int .u64 150] 60)).alloc (.cells #[hd 51, .pointer (some ⟨w.heap.size, 0, none⟩), .int .u64 150] 60)).alloc (.cells #[.int .i64 n, .int .i64 k] 48)) (by rw [World.cell?_alloc_lt _ _ ⟨w.heap.size, 0, none⟩ (by simp; omega), World.cell?_alloc_lt _ _ ⟨w.heap.size, 0, none⟩ (by simp; omega)]; simp)
  have st := setE ⟨g, 0, none⟩ ⟨w.heap.size + 1 + 1 + 1 + 1, 0, none⟩ n old (((((w.alloc (.cells #[.pointer (some ⟨g, 0, none⟩)] 51)).alloc (.cells #[hd 51, .pointer (some ⟨w.heap.size, 0, none⟩), .int .u64 150] 60)).alloc (.cells #[hd 51, .pointer (some ⟨w.heap.size, 0, none⟩), .int .u64 150] 60)).alloc (.cells #[.int .i64 n, .int .i64 k] 48)).alloc (.cells #[.int .i64 n] 38)) (by rw [World.cell?_alloc_at _ _ _ _ (by simp)]; rfl) (blk_cell b4 0) (blk_frozen b4 0)
  go_enter Tryd.func17, Tryd.ntmps17
  go_wp2
  refine wp_loop_rounds 2 ?_
  rw [rounds_succ]
  go_wp2
  rw [rounds_succ]
  go_wp2
  go_ret
  exact ⟨rfl, rfl⟩
set_option maxHeartbeats 8000000 in
theorem as_FF (n k : Int) (g : Nat) (o1 o2 : Value) (w : World) (hg : ErrT w) (ht : w.heap[g]? = some (.cells #[o1, o2] 48 (0, 0))) :
    Calls Tryd.prog 17 #[.iface 48 (.agg #[.int .i64 n, .int .i64 k]), .iface 50 (.pointer (some ⟨g, 0, none⟩))] w fun ev w' => ev = .returned (.bool true) ∧ w' = (((((w.alloc (.cells #[.pointer (some ⟨g, 0, none⟩)] 50)).alloc (.cells #[hd 50, .pointer (some ⟨w.heap.size, 0, none⟩), .int .u64 150] 60)).alloc (.cells #[hd 50, .pointer (some ⟨w.heap.size, 0, none⟩), .int .u64 150] 60)).alloc (.cells #[.int .i64 n, .int .i64 k] 48)).setCell ⟨g, 0, none⟩ (.int .i64 n)).setCell ⟨g, 1, none⟩ (.int .i64 k) := by
  have h6 := @run_callFunc_extern Tryd.prog 26 _ (fun args => ReflectliteValue.unpack (args.getD 0 (.tuple #[]))) Tryd.func26 (by kernel_rfl) (by kernel_rfl) (by kernel_rfl) (by kernel_rfl)
  have h7 := @run_callFunc_extern Tryd.prog 27 _ (ReflectliteValue.methodAny (ReflectliteValue.valueError "reflectlite.Value.Type" 0) (fun t _ _ _ => ReflectliteType.toType t)) Tryd.func27 (by kernel_rfl) (by kernel_rfl) (by kernel_rfl) (by kernel_rfl)
  have h8 := @run_callFunc_extern Tryd.prog 28 _ (ReflectliteValue.method (ReflectliteValue.valueError "reflectlite.Value.IsNil" 0) ReflectliteValue.isNil) Tryd.func28 (by kernel_rfl) (by kernel_rfl) (by kernel_rfl) (by kernel_rfl)
  have h27 := @run_callFunc_extern Tryd.prog 94 _ (ReflectliteType.abiMethod fun t => do pure (.int .u8 (← Rtype.kind t))) Tryd.func94 (by kernel_rfl) (by kernel_rfl) (by kernel_rfl) (by kernel_rfl)
  have h37 := @run_callFunc_extern Tryd.prog 106 _ (ReflectliteType.method ReflectliteType.elem) Tryd.func106 (by kernel_rfl) (by kernel_rfl) (by kernel_rfl) (by kernel_rfl)
  have h38 := @run_callFunc_extern Tryd.prog 107 _ (ReflectliteType.relation "Implements" ReflectliteType.implements_) Tryd.func107 (by kernel_rfl) (by kernel_rfl) (by kernel_rfl) (by kernel_rfl)
  have h10 := @run_callFunc_extern Tryd.prog 38 _ ReflectliteType.typeOf Tryd.func38 (by kernel_rfl) (by kernel_rfl) (by kernel_rfl) (by kernel_rfl)
  have h35 := @run_callFunc_extern Tryd.prog 104 _ (ReflectliteType.relation "AssignableTo" ReflectliteType.assignableTo) Tryd.func104 (by kernel_rfl) (by kernel_rfl) (by kernel_rfl) (by kernel_rfl)
  have h11 := @run_callFunc_extern Tryd.prog 39 _ (ReflectliteValue.method (ReflectliteValue.valueError "reflectlite.Value.Elem" 0) ReflectliteValue.elem) Tryd.func39 (by kernel_rfl) (by kernel_rfl) (by kernel_rfl) (by kernel_rfl)
  have h12 := @run_callFunc_extern Tryd.prog 40 _ ReflectliteValue.set Tryd.func40 (by kernel_rfl) (by kernel_rfl) (by kernel_rfl) (by kernel_rfl)
  have q1 := valueOfPF
  have q2 := typePF
  have q3 := methodKind
  have q4 := methodElem
  have q5 := methodImplements
  have q6 := methodAssignableTo
  have q7 := kindPF
  have q8 := kindF
  have q9 := elemPF
  have q10 := implementsF
  have q14 := typeOfF
  have q15 := assignFF
  have q16 := valueOfF
  have n8 := isNilPF ⟨w.heap.size, 0, none⟩ ⟨g, 0, none⟩ ((w.alloc (.cells #[.pointer (some ⟨g, 0, none⟩)] 50)).alloc (.cells #[hd 50, .pointer (some ⟨w.heap.size, 0, none⟩), .int .u64 150] 60)) (by simp)
  have hlt : 0 < w.heap.size := by
    rcases Nat.lt_or_ge 0 w.heap.size with h | h
    · exact h
    · simp [ErrT, World.cell?, Array.getElem?_eq_none h] at hg
  have hg2 : ((w.alloc (.cells #[.pointer (some ⟨g, 0, none⟩)] 50)).alloc (.cells #[hd 50, .pointer (some ⟨w.heap.size, 0, none⟩), .int .u64 150] 60)).cell? ⟨0, 0, none⟩ = some (rt 25) := by
    rw [World.cell?_alloc_lt _ _ ⟨0, 0, none⟩ (by simp <;> omega), World.cell?_alloc_lt _ _ ⟨0, 0, none⟩ hlt]; exact hg
  have htl := blk_lt ht
  have b3 : (((w.alloc (.cells #[.pointer (some ⟨g, 0, none⟩)] 50)).alloc (.cells #[hd 50, .pointer (some ⟨w.heap.size, 0, none⟩), .int .u64 150] 60)).alloc (.cells #[hd 50, .pointer (some ⟨w.heap.size, 0, none⟩), .int .u64 150] 60)).heap[g]? = _ := blk_alloc (blk_alloc (blk_alloc ht _) _) _
  have b4 := blk_alloc b3 (.cells #[.int .i64 n, .int .i64 k] 48)
  have el := elemVPF ⟨w.heap.size, 0, none⟩ ⟨g, 0, none⟩ (((w.alloc (.cells #[.pointer (some ⟨g, 0, none⟩)] 50)).alloc (.cells #[hd 50, .pointer (some ⟨w.heap.size, 0, none⟩), .int .u64 150] 60)).alloc (.cells #[hd 50, .pointer (some ⟨w.heap.size, 0, none⟩), .int .u64 150] 60)) (by rw [World.cell?_alloc_lt _ _ ⟨w.heap.size, 0, none⟩ (by simp; omega)]; simp)
  have e3 : (((w.alloc (.cells #[.pointer (some ⟨g, 0, none⟩)] 50)).alloc (.cells #[hd 50, .pointer (some ⟨w.heap.size, 0, none⟩), .int .u64 150] 60)).alloc (.cells #[hd 50, .pointer (some ⟨w.heap.size, 0, none⟩), .int .u64 150] 60)).heap.size = w.heap.size + 1 + 1 + 1 := by simp
  have st := setF g (w.heap.size + 1 + 1 + 1) n k o1 o2 ((((w.alloc (.cells #[.pointer (some ⟨g, 0, none⟩)] 50)).alloc (.cells #[hd 50, .pointer (some ⟨w.heap.size, 0, none⟩), .int .u64 150] 60)).alloc (.cells #[hd 50, .pointer (some ⟨w.heap.size, 0, none⟩), .int .u64 150] 60)).alloc (.cells #[.int .i64 n, .int .i64 k] 48)) (by rw [← e3]; exact heap_alloc_new _ _) b4
  go_enter Tryd.func17, Tryd.ntmps17
  go_wp2
  refine wp_loop_rounds 1 ?_
  rw [rounds_succ]
  go_wp2
  go_ret
  exact ⟨rfl, rfl⟩
theorem as_nil (t : Value) (w : World) : Calls Tryd.prog 17 #[.nilIface, t] w fun e w' => e = .returned (.bool false) ∧ w' = w := by
  go_enter Tryd.func17, Tryd.ntmps17
  go_wp2
  go_ret
  exact ⟨rfl, rfl⟩
end Go.Proofs.YthodilggomedgaaDoor.As
