/- Texts of this work, joined: Pfx, Box. -/
import Derived.Test.YtnhdfjcecgjlgaaProg
import Derived.Test.YtnhdfjcecgjlgaaMq
import Derived.Test.YtnhdfjcecgjlgaaJ1
import Derived.Deep.MidRow
section
namespace Go.Proofs.Ytnhdfjcecgjlgaa.Pfx
open Go.RowKit Go.Proofs.Ytnhdfjcecgjlgaa.Mq
set_option linter.unusedVariables false
set_option linter.unusedSimpArgs false
attribute [local go_sem] max2_int min2_int max_two min_two
def maskB (b : Int) : Int := if b ≤ 0 then 0 else 4294967295 * 2 ^ (32 - min b 32).toNat % 4294967296
theorem mask_calls {w : World} {b : Int} : Calls Try.prog 32 #[.int .i64 b] w fun e W => e = .returned (.int .u32 (maskB b)) ∧ w = W := by
  go_enter Try.func32, Try.ntmps32; by_cases h : b ≤ 0
  · have hm : Hid (maskB b = 0) := if_pos h
    go_wp2; go_ret; exact ⟨by rw [hm.out]; rfl, rfl⟩
  · have hm : Hid (maskB b = 4294967295 * 2 ^ (32 - min b 32).toNat % 4294967296) := if_neg h
    (have hd : (32 - min b 32).toNat < 4294967296 := by omega); by_cases h2 : b ≤ 32
    all_goals
      go_wp2; go_ret; exact ⟨by rw [hm.out]; rfl, rfl⟩
def mayB (p : Pf) : Bool := decide (0 ≤ p.bits) && decide (p.bits ≤ 32) && (bits .andNot .u32 p.addr (maskB p.bits) == 0)
set_option maxHeartbeats 1000000 in
theorem may_calls {w : World} (a b : Int) : Calls Try.prog 31 #[.agg #[.int .u32 a, .int .i64 b]] w fun e W => e = .returned (.bool (mayB ⟨a, b⟩)) ∧ Mem w W [] [] := by
  have H := (MemM.start w).box 36 [.int .u32 a, .int .i64 b]; go_enter Try.func31, Try.ntmps31; go_wp2_with fail; obtain ⟨c0, -⟩ := H.boxcell (.head _) 0 _ rfl; obtain ⟨c1, -⟩ := H.boxcell (.head _) 1 _ rfl; generalize w.heap.size = g at H c0 c1 ⊢; generalize w.alloc (.cells #[.int .u32 a, .int .i64 b] 36) = W at H c0 c1 ⊢; replace c0 := cell_regrown c0; replace c1 := cell_regrown c1; have hm : Hid (mayB ⟨a, b⟩ = (decide (0 ≤ b) && decide (b ≤ 32) && (bits .andNot .u32 a (maskB b) == 0))) := rfl; by_cases h0 : 0 ≤ b
  · by_cases h1 : b ≤ 32
    · have hm : Hid (mayB ⟨a, b⟩ = (bits .andNot .u32 a (maskB b) == 0)) := by rw [Hid, hm.out]; simp [h0, h1]
      refine wp_region_quiet_below (by kernel_rfl) (by kernel_rfl) ?_; (repeat (first | go_big_quiet_skip | (go_big_quiet_want; go_big_quiet_op; first | go_big_quiet_on | (apply Exists.intro; refine ⟨fun _ => ?_, ?_⟩; (go_at_call 32; exact calls_regrown' (fun W => mask_calls)); go_big_quiet_on)))); refine wpQuiet_nil ?_; intro Wq hw'; obtain ⟨pq, hw''⟩ := hw'; have hq := mem_of_regrown hw''; clear hw''; go_wp2; go_ret; exact ⟨by rw [hm.out]; rfl, (H.call hq).drop⟩
    · have hm : Hid (mayB ⟨a, b⟩ = false) := by rw [Hid, hm.out]; simp [h1]
      (have h1 : decide (b ≤ 32) = false := by simpa using h1); refine wp_region_quiet_below (by kernel_rfl) (by kernel_rfl) ?_; (repeat (first | go_big_quiet_skip | (go_big_quiet_want; go_big_quiet_op; first | go_big_quiet_on | (apply Exists.intro; refine ⟨fun _ => ?_, ?_⟩; (fail); go_big_quiet_on)))); refine wpQuiet_nil ?_; intro Wq hw'; obtain ⟨pq, hw''⟩ := hw'; have hq := mem_of_regrown hw''; clear hw''; go_wp2; go_ret; exact ⟨by rw [hm.out]; rfl, (H.call hq).drop⟩
  · have hm : Hid (mayB ⟨a, b⟩ = false) := by rw [Hid, hm.out]; simp [h0]
    (have h0 : decide (0 ≤ b) = false := by simpa using h0); refine wp_region_quiet_below (by kernel_rfl) (by kernel_rfl) ?_; (repeat (first | go_big_quiet_skip | (go_big_quiet_want; go_big_quiet_op; first | go_big_quiet_on | (apply Exists.intro; refine ⟨fun _ => ?_, ?_⟩; (fail); go_big_quiet_on)))); refine wpQuiet_nil ?_; intro Wq hw'; obtain ⟨pq, hw''⟩ := hw'; have hq := mem_of_regrown hw''; clear hw''; go_wp2; go_ret; exact ⟨by rw [hm.out]; rfl, (H.call hq).drop⟩
def coversB (p q : Pf) : Bool := mayB p && mayB q && decide (p.bits ≤ q.bits) && (bits .and .u32 q.addr (maskB p.bits) == p.addr)
set_option maxHeartbeats 2000000 in
theorem covers_calls {w : World} (a b c d : Int) : Calls Try.prog 23 #[.agg #[.int .u32 a, .int .i64 b], .agg #[.int .u32 c, .int .i64 d]] w fun e W => e = .returned (.bool (coversB ⟨a, b⟩ ⟨c, d⟩)) ∧ Mem w W [] [] := by
  have H := ((MemM.start w).box 36 [.int .u32 a, .int .i64 b]).box 36 [.int .u32 c, .int .i64 d]; go_enter Try.func23, Try.ntmps23; go_wp2_with fail; (have e1 : (w.alloc (.cells #[.int .u32 a, .int .i64 b] 36)).heap.size = w.heap.size + 1 := by simp); rw [e1] at H; generalize w.heap.size = g at H ⊢; generalize (w.alloc (.cells #[.int .u32 a, .int .i64 b] 36)).alloc (.cells #[.int .u32 c, .int .i64 d] 36) = W at H ⊢; have c0 := cell_regrown (H.boxcell (.head _) 0 _ rfl).1; have c1 := cell_regrown (H.boxcell (.head _) 1 _ rfl).1; have c2 := cell_regrown (H.boxcell (.tail _ (.head _)) 0 _ rfl).1; have c3 := cell_regrown (H.boxcell (.tail _ (.head _)) 1 _ rfl).1; (have hm1 : Hid (∀ W, Calls Try.prog 31 #[.agg #[.int .u32 a, .int .i64 b]] W fun e W' => e = .returned (.bool (mayB ⟨a, b⟩)) ∧ Mem W W' [] []) := fun W => may_calls a b); (have hm2 : Hid (∀ W, Calls Try.prog 31 #[.agg #[.int .u32 c, .int .i64 d]] W fun e W' => e = .returned (.bool (mayB ⟨c, d⟩)) ∧ Mem W W' [] []) := fun W => may_calls c d); have hcv : Hid (coversB ⟨a, b⟩ ⟨c, d⟩ = (mayB ⟨a, b⟩ && mayB ⟨c, d⟩ && decide (b ≤ d) && (bits .and .u32 c (maskB b) == a))) := rfl; generalize mayB ⟨a, b⟩ = m1 at hm1 hcv; generalize mayB ⟨c, d⟩ = m2 at hm2 hcv; cases m1
  · have hm : Hid (coversB ⟨a, b⟩ ⟨c, d⟩ = false) := by rw [Hid, hcv.out]; rfl
    refine wp_region_quiet_below (by kernel_rfl) (by kernel_rfl) ?_; (repeat (first | go_big_quiet_skip | (go_big_quiet_want; go_big_quiet_op; first | go_big_quiet_on | (apply Exists.intro; refine ⟨fun _ => ?_, ?_⟩; (first | (go_at_call_of 31 (Value.agg #[.int .u32 a, .int .i64 b]); exact calls_regrown hm1.out)); go_big_quiet_on)))); refine wpQuiet_nil ?_; intro Wq hw'; obtain ⟨pq, hw''⟩ := hw'; have hq := mem_of_regrown hw''; clear hw''; go_wp2; go_ret; exact ⟨by rw [hm.out]; rfl, (H.call hq).drop.drop⟩
  · cases m2
    · have hm : Hid (coversB ⟨a, b⟩ ⟨c, d⟩ = false) := by rw [Hid, hcv.out]; rfl
      refine wp_region_quiet_below (by kernel_rfl) (by kernel_rfl) ?_; (repeat (first | go_big_quiet_skip | (go_big_quiet_want; go_big_quiet_op; first | go_big_quiet_on | (apply Exists.intro; refine ⟨fun _ => ?_, ?_⟩; (first | (go_at_call_of 31 (Value.agg #[.int .u32 a, .int .i64 b]); exact calls_regrown hm1.out) | (go_at_call_of 31 (Value.agg #[.int .u32 c, .int .i64 d]); exact calls_regrown hm2.out)); go_big_quiet_on)))); refine wpQuiet_nil ?_; intro Wq hw'; obtain ⟨pq, hw''⟩ := hw'; have hq := mem_of_regrown hw''; clear hw''; go_wp2; go_ret; exact ⟨by rw [hm.out]; rfl, (H.call hq).drop.drop⟩
    · by_cases hbd : b ≤ d
      · have hm : Hid (coversB ⟨a, b⟩ ⟨c, d⟩ = (bits .and .u32 c (maskB b) == a)) := by rw [Hid, hcv.out]; simp [hbd]
        refine wp_region_quiet_below (by kernel_rfl) (by kernel_rfl) ?_; (repeat (first | go_big_quiet_skip | (go_big_quiet_want; go_big_quiet_op; first | go_big_quiet_on | (apply Exists.intro; refine ⟨fun _ => ?_, ?_⟩; (first | (go_at_call_of 31 (Value.agg #[.int .u32 a, .int .i64 b]); exact calls_regrown hm1.out) | (go_at_call_of 31 (Value.agg #[.int .u32 c, .int .i64 d]); exact calls_regrown hm2.out) | (go_at_call 32; exact calls_regrown' (fun W => mask_calls))); go_big_quiet_on)))); refine wpQuiet_nil ?_; intro Wq hw'; obtain ⟨pq, hw''⟩ := hw'; have hq := mem_of_regrown hw''; clear hw''; go_wp2; go_ret; exact ⟨by rw [hm.out]; rfl, (H.call hq).drop.drop⟩
      · have hm : Hid (coversB ⟨a, b⟩ ⟨c, d⟩ = false) := by rw [Hid, hcv.out]; simp [hbd]
        (have hbd : decide (b ≤ d) = false := by simpa using hbd); refine wp_region_quiet_below (by kernel_rfl) (by kernel_rfl) ?_; (repeat (first | go_big_quiet_skip | (go_big_quiet_want; go_big_quiet_op; first | go_big_quiet_on | (apply Exists.intro; refine ⟨fun _ => ?_, ?_⟩; (first | (go_at_call_of 31 (Value.agg #[.int .u32 a, .int .i64 b]); exact calls_regrown hm1.out) | (go_at_call_of 31 (Value.agg #[.int .u32 c, .int .i64 d]); exact calls_regrown hm2.out)); go_big_quiet_on)))); refine wpQuiet_nil ?_; intro Wq hw'; obtain ⟨pq, hw''⟩ := hw'; have hq := mem_of_regrown hw''; clear hw''; go_wp2; go_ret; exact ⟨by rw [hm.out]; rfl, (H.call hq).drop.drop⟩
end Go.Proofs.Ytnhdfjcecgjlgaa.Pfx
end
section
namespace Go.Proofs.Ytnhdfjcecgjlgaa.Mq
open Go.RowKit
set_option linter.unusedVariables false
set_option linter.unusedSimpArgs false
section
variable {P : Program} {ops : Array Oper} {rest : List Oper} {o : Oper} {a : Act} {Q : Exit → Act → World → Prop} {M Z : Nat → Prop} {w0 W : World} {R l : List Asr}
theorem wp_ldcells {ad : Addr} {n : Nat} (cs : List Value) (hc : ∀ (j : Nat) u, cs[j]? = some u → W.cell? (ad.add (n + j)) = some u) (hgd : o.guard = none) (t : TypeId) (p : Operand) (ho : o.op = .load t p) (hp : a.eval p = .pointer (some (ad.add n)))
    (d : TypeDesc) (hu : P.underlying t = some d) (hd : d.isRow = true) (hi : (P.info? t).map (·.size) = some cs.length)
    (h : wpList P ops Q rest (a.put o.dst (.agg cs.toArray)) W) : wpList P ops Q (o :: rest) a W := by
  refine wpList_plain hgd fun K hK => ?_
  have hl : (loadCells (ad.add n) cs.length).run P W = .ok cs.toArray W :=
    run_loadCells_list (P := P) W (ad.add n) cs (fun j v hv => by rw [add_add]; exact hc j v hv)
  cases hq : P.info? t with
  | none => simp [hq] at hi
  | some i =>
    have hs : i.size = cs.length := by simpa [hq] using hi
    have hagg : (isAgg t).run P W = .ok true W := by
      unfold isAgg; rw [Sem.run_bind, run_underlying hu W]; cases d <;> simp_all
    unfold Oper.wp execOp; simp only [ho, hp, Instr.loadAt, Instr.sureAddr, Sem.run_bind, Sem.run_pure, Result.andThen_ok, loadVar, hagg, sizeOf, typeInfo, hq, hs, hl, if_true]; simp [Sem.run_bind, typeInfo, hq, hs, hl, Result.andThen]; exact hK _ _ h
theorem wp_alloc (H : MemM M Z w0 W R l) (hgd : o.guard = none) (t : TypeId) (ho : o.op = .alloc t) (z : Value) (hz : (P.info? t).map (·.zero) = some (some z)) (cs : List Value) (hcs : z.cells.toList = cs)
    (h : ∀ g W1, MemM M Z w0 W1 R (box g t cs :: l) → wpList P ops Q rest (a.put o.dst (.pointer (some ⟨g, 0, none⟩))) W1) : wpList P ops Q (o :: rest) a W := by
  (refine wpList_plain hgd fun K hK => ?_); subst hcs
  cases hq : P.info? t with
  | none => simp [hq] at hz
  | some i =>
    (have hz' : i.zero = some z := by simpa [hq] using hz); unfold Oper.wp execOp; simp [ho, Instr.alloc, zeroValue, typeInfo, hq, hz', newVar, newRow, Result.andThen]; exact hK _ _ (h _ _ (by simpa using H.box t z.cells.toList))
theorem wp_stbox {g t0 : Nat} {cs : List Value} (H : MemM M Z w0 W R (box g t0 cs :: l)) (hgd : o.guard = none) (t : TypeId) (p x : Operand) (ho : o.op = .store t p x) (j : Nat) (hp : a.eval p = .pointer (some ⟨g, j, none⟩)) (v : Value) (hv : a.eval x = v)
    (xs : List Value) (hxs : v.cells.toList = xs) (hi : (P.info? t).map (·.size) = some xs.length) (h1 : xs.all (fun u => u.oneCell') = true) (hj : j + xs.length ≤ cs.length) (cs' : List Value) (hcs : cs.take j ++ xs ++ cs.drop (j + xs.length) = cs')
    (h : ∀ W1, MemM M Z w0 W1 R (box g t0 cs' :: l) → wpList P ops Q rest (a.put o.dst undef) W1) : wpList P ops Q (o :: rest) a W := by
  (refine wpList_plain hgd fun K hK => ?_); obtain ⟨F, S, ⟨hS, hg⟩, h2, h3, h4, h5, h6⟩ := H.open1; (have hlen : v.cells.size = xs.length := by rw [← hxs]; simp); have hst := run_storeCells_at P g j t0 xs 0 cs.toArray W hg (by simpa using hj) (List.all_eq_true.1 h1); simp only [Nat.add_zero] at hst
  cases hq : P.info? t with
  | none => simp [hq] at hi
  | some i =>
    have hs : i.size = xs.length := by simpa [hq] using hi
    have hrun : (Instr.storeAt t (.pointer (some ⟨g, j, none⟩)) v).run P W = .ok () (W.setRow g (cs.take j ++ xs ++ cs.drop (j + xs.length)).toArray) := by
      simp [Instr.storeAt, Instr.sureAddr, storeVar, sizeOf, typeInfo, hq, hs, hlen, hxs, Result.andThen]; simpa using hst
    unfold Oper.wp execOp; simp [ho, hp, hv, hrun, Result.andThen]; refine hK _ _ (h _ (h6 _ (box g t0 cs') (some g) ⟨rfl, rfl, rfl, by simp, fun k _ hk => setRow_other W g k _ (fun e => hk (by rw [e]))⟩ (fun k e => by cases e; exact hS) ⟨.inl hS, ?_⟩)); have := setRow_heap W g cs.toArray (cs.take j ++ xs ++ cs.drop (j + xs.length)).toArray t0 (0, 0) hg; rw [← hcs]; simpa using this
end
end Go.Proofs.Ytnhdfjcecgjlgaa.Mq
end
