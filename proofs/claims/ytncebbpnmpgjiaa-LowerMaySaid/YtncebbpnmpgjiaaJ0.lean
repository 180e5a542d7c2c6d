/- Texts of this work, joined: Eq, Box. -/
import Derived.Test.YtncebbpnmpgjiaaProg
import Derived.Test.YtncebbpnmpgjiaaApi
import Derived.Laws.StructEq
import Derived.Deep.MidRow
section
namespace Go.Proofs.Ytncebbpnmpgjiaa.Eq
open Go.RowKit Go.Proofs.Ytncebbpnmpgjiaa.Mq
set_option linter.unusedVariables false
set_option linter.unusedSimpArgs false
set_option maxRecDepth 100000 in
theorem eqf_last {P : Program} {d : Nat} {xs ys : Array Value} {f : Field} {a b : Value} {r : Bool} {w : World} (hn : f.name ≠ "_") (ha : (part f.type xs f.offset).run P w = .ok a w) (hb : (part f.type ys f.offset).run P w = .ok b w) (he : (Op.equalIn d f.type a b).run P w = .ok r w) : (Op.eqFields d xs ys [f]).run P w = .ok r w := by
  simp only [Op.eqFields, if_pos hn, Sem.run_bind, ha, hb, he, Result.andThen_ok]
  cases r <;> simp
theorem eqf_cons {P : Program} {d : Nat} {xs ys : Array Value} {f : Field} {fs : List Field} {a b : Value} {r s : Bool} {w : World} (hn : f.name ≠ "_") (ha : (part f.type xs f.offset).run P w = .ok a w) (hb : (part f.type ys f.offset).run P w = .ok b w) (he : (Op.equalIn d f.type a b).run P w = .ok r w) (hr : (Op.eqFields d xs ys fs).run P w = .ok s w) : (Op.eqFields d xs ys (f :: fs)).run P w = .ok (r && s) w := by
  rw [Op.eqFields]
  simp only [if_pos hn, Sem.run_bind, ha, hb, he, Result.andThen_ok]
  cases r
  · simp
  · simpa using hr
theorem eq_struct {P : Program} {d : Nat} {xs ys : Array Value} {t : TypeId} {fs : Array Field} {r : Bool} {w : World} (hu : P.underlying t = some (.struct fs)) (hp : P.stoodInHeld t = false) (h : (Op.eqFields d xs ys fs.toList).run P w = .ok r w) : (Op.equalIn (d + 1) t (.agg xs) (.agg ys)).run P w = .ok r w := by
  have hf : P.fieldsOf t = fs := by simp [Program.fieldsOf, hu]
  rw [run_equalIn_struct (P := P) w d t xs ys (by rw [hf]; exact hu) hp, hf]
  exact h
theorem eqin_pf (w : World) (n : Nat) (a b c d : Int) : (Op.equalIn (n + 2) 36 (.agg #[.int .u32 a, .int .i64 b]) (.agg #[.int .u32 c, .int .i64 d])).run Try.prog w = .ok (a == c && b == d) w := by
  refine eq_struct Try.underlying36 (by kernel_rfl) (eqf_cons (a := .int .u32 a) (b := .int .u32 c) (by decide) ?_ ?_ ?_ (eqf_last (a := .int .i64 b) (b := .int .i64 d) (by decide) ?_ ?_ ?_))
  all_goals simp [part, Op.equalIn, isAgg, go_sem]
theorem eql_pf (w : World) (a b c d : Int) : (binOp .eql 36 (.agg #[.int .u32 a, .int .i64 b]) (.agg #[.int .u32 c, .int .i64 d])).run Try.prog w = .ok (.bool (a == c && b == d)) w := by
  simp only [binOp]
  simp [Op.equal, Op.maxDepth, eqin_pf w 9998 a b c d]
end Go.Proofs.Ytncebbpnmpgjiaa.Eq
end
section
namespace Go.Proofs.Ytncebbpnmpgjiaa.Mq
open Go.RowKit
set_option linter.unusedVariables false
set_option linter.unusedSimpArgs false
section
variable {P : Program} {ops : Array Oper} {rest : List Oper} {o : Oper} {a : Act} {Q : Exit → Act → World → Prop} {M Z : Nat → Prop} {w0 W : World} {R l : List Asr}
/-- A record is read out of a row. -/
theorem wp_ldcells {ad : Addr} {n : Nat} (cs : List Value) (hc : ∀ (j : Nat) u, cs[j]? = some u → W.cell? (ad.add (n + j)) = some u) (hgd : o.guard = none) (t : TypeId) (p : Operand) (ho : o.op = .load t p) (hp : a.eval p = .pointer (some (ad.add n)))
    (d : TypeDesc) (hu : P.underlying t = some d) (hd : d.isRow = true) (hi : (P.info? t).map (·.size) = some cs.length)
    (h : wpList P ops Q rest (a.put o.dst (.agg cs.toArray)) W) : wpList P ops Q (o :: rest) a W := by
  refine wpList_plain hgd fun K hK => ?_
  have hl : (loadCells (ad.add n) cs.length).run P W = .ok cs.toArray W :=
    run_loadCells_list (P := P) W (ad.add n) cs (fun j v hv => by rw [add_add]; exact hc j v hv)
  cases hq : P.info? t with
  | none => simp [hq] at hi
  | some i =>
    have hs : i.size = cs.length := by simpa [hq] using hi
    have hagg : (isAgg t).run P W = .ok true W := by
      unfold isAgg
      rw [Sem.run_bind, run_underlying hu W]
      cases d <;> simp_all
    unfold Oper.wp execOp
    simp only [ho, hp, Instr.loadAt, Instr.sureAddr, Sem.run_bind, Sem.run_pure, Result.andThen_ok, loadVar, hagg, sizeOf, typeInfo, hq, hs, hl, if_true]
    simp [Sem.run_bind, typeInfo, hq, hs, hl, Result.andThen]
    exact hK _ _ h
theorem wp_alloc (H : MemM M Z w0 W R l) (hgd : o.guard = none) (t : TypeId) (ho : o.op = .alloc t) (z : Value) (hz : (P.info? t).map (·.zero) = some (some z)) (cs : List Value) (hcs : z.cells.toList = cs)
    (h : ∀ g W1, MemM M Z w0 W1 R (box g t cs :: l) → wpList P ops Q rest (a.put o.dst (.pointer (some ⟨g, 0, none⟩))) W1) : wpList P ops Q (o :: rest) a W := by
  refine wpList_plain hgd fun K hK => ?_
  subst hcs
  cases hq : P.info? t with
  | none => simp [hq] at hz
  | some i =>
    have hz' : i.zero = some z := by simpa [hq] using hz
    unfold Oper.wp execOp
    simp [ho, Instr.alloc, zeroValue, typeInfo, hq, hz', newVar, newRow, Result.andThen]
    exact hK _ _ (h _ _ (by simpa using H.box t z.cells.toList))
theorem wp_stbox {g t0 : Nat} {cs : List Value} (H : MemM M Z w0 W R (box g t0 cs :: l)) (hgd : o.guard = none) (t : TypeId) (p x : Operand) (ho : o.op = .store t p x) (j : Nat) (hp : a.eval p = .pointer (some ⟨g, j, none⟩)) (v : Value) (hv : a.eval x = v)
    (xs : List Value) (hxs : v.cells.toList = xs) (hi : (P.info? t).map (·.size) = some xs.length) (h1 : xs.all (fun u => u.oneCell') = true) (hj : j + xs.length ≤ cs.length) (cs' : List Value) (hcs : cs.take j ++ xs ++ cs.drop (j + xs.length) = cs')
    (h : ∀ W1, MemM M Z w0 W1 R (box g t0 cs' :: l) → wpList P ops Q rest (a.put o.dst undef) W1) : wpList P ops Q (o :: rest) a W := by
  refine wpList_plain hgd fun K hK => ?_
  obtain ⟨F, S, ⟨hS, hg⟩, h2, h3, h4, h5, h6⟩ := H.open1
  have hlen : v.cells.size = xs.length := by rw [← hxs]; simp
  have hst := run_storeCells_at P g j t0 xs 0 cs.toArray W hg (by simpa using hj) (List.all_eq_true.1 h1)
  simp only [Nat.add_zero] at hst
  cases hq : P.info? t with
  | none => simp [hq] at hi
  | some i =>
    have hs : i.size = xs.length := by simpa [hq] using hi
    have hrun : (Instr.storeAt t (.pointer (some ⟨g, j, none⟩)) v).run P W = .ok () (W.setRow g (cs.take j ++ xs ++ cs.drop (j + xs.length)).toArray) := by
      simp [Instr.storeAt, Instr.sureAddr, storeVar, sizeOf, typeInfo, hq, hs, hlen, hxs, Result.andThen]
      simpa using hst
    unfold Oper.wp execOp
    simp [ho, hp, hv, hrun, Result.andThen]
    refine hK _ _ (h _ (h6 _ (box g t0 cs') (some g) ⟨rfl, rfl, rfl, by simp, fun k _ hk => setRow_other W g k _ (fun e => hk (by rw [e]))⟩ (fun k e => by cases e; exact hS) ⟨.inl hS, ?_⟩))
    have := setRow_heap W g cs.toArray (cs.take j ++ xs ++ cs.drop (j + xs.length)).toArray t0 (0, 0) hg
    rw [← hcs]
    simpa using this
end
end Go.Proofs.Ytncebbpnmpgjiaa.Mq
end
