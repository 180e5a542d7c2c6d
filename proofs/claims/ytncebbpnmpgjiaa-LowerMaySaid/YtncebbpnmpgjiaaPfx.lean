/- Walks: package prefix, what needs no texts. -/
import Derived.Test.YtncebbpnmpgjiaaProg
import Derived.Test.YtncebbpnmpgjiaaMq
import Derived.Test.YtncebbpnmpgjiaaBelow
import Derived.Test.YtncebbpnmpgjiaaApi
namespace Go.Proofs.Ytncebbpnmpgjiaa.Pfx
open Go.RowKit Go.Proofs.Ytncebbpnmpgjiaa.Mq
set_option linter.unusedVariables false
set_option linter.unusedSimpArgs false
attribute [local go_sem] max2_int min2_int max_two min_two
/-- So many bits, the highest ones. -/
def maskB (b : Int) : Int := if b ≤ 0 then 0 else 4294967295 * 2 ^ (32 - min b 32).toNat % 4294967296
theorem mask_calls {w : World} {b : Int} : Calls Try.prog 37 #[.int .i64 b] w fun e W => e = .returned (.int .u32 (maskB b)) ∧ w = W := by
  go_enter Try.func37, Try.ntmps37
  by_cases h : b ≤ 0
  · have hm : Hid (maskB b = 0) := if_pos h
    go_wp2
    go_ret
    exact ⟨by rw [hm.out]; rfl, rfl⟩
  · have hm : Hid (maskB b = 4294967295 * 2 ^ (32 - min b 32).toNat % 4294967296) := if_neg h
    have hd : (32 - min b 32).toNat < 4294967296 := by omega
    by_cases h2 : b ≤ 32
    all_goals
      go_wp2
      go_ret
      exact ⟨by rw [hm.out]; rfl, rfl⟩
def mayB (p : Pf) : Bool := decide (0 ≤ p.bits) && decide (p.bits ≤ 32) && (bits .andNot .u32 p.addr (maskB p.bits) == 0)
set_option maxHeartbeats 1000000 in
theorem may_calls {w : World} (a b : Int) : Calls Try.prog 36 #[.agg #[.int .u32 a, .int .i64 b]] w fun e W => e = .returned (.bool (mayB ⟨a, b⟩)) ∧ Mem w W [] [] := by
  have H := (MemM.start w).box 36 [.int .u32 a, .int .i64 b]
  go_enter Try.func36, Try.ntmps36
  go_wp2_with fail
  obtain ⟨c0, -⟩ := H.boxcell (.head _) 0 _ rfl
  obtain ⟨c1, -⟩ := H.boxcell (.head _) 1 _ rfl
  generalize w.heap.size = g at H c0 c1 ⊢
  generalize w.alloc (.cells #[.int .u32 a, .int .i64 b] 36) = W at H c0 c1 ⊢
  replace c0 := cell_regrown c0
  replace c1 := cell_regrown c1
  have hm : Hid (mayB ⟨a, b⟩ = (decide (0 ≤ b) && decide (b ≤ 32) && (bits .andNot .u32 a (maskB b) == 0))) := rfl
  by_cases h0 : 0 ≤ b
  · by_cases h1 : b ≤ 32
    · have hm : Hid (mayB ⟨a, b⟩ = (bits .andNot .u32 a (maskB b) == 0)) := by rw [Hid, hm.out]; simp [h0, h1]
      refine wp_region_quiet_below (by kernel_rfl) (by kernel_rfl) ?_
      repeat (first | go_big_quiet_skip | (go_big_quiet_want; go_big_quiet_op; first | go_big_quiet_on | (apply Exists.intro; refine ⟨fun _ => ?_, ?_⟩; (go_at_call 37; exact calls_regrown' (fun W => mask_calls)); go_big_quiet_on)))
      refine wpQuiet_nil ?_
      intro Wq hw'
      obtain ⟨pq, hw''⟩ := hw'
      have hq := mem_of_regrown hw''
      clear hw''
      go_wp2
      go_ret
      exact ⟨by rw [hm.out]; rfl, (H.call hq).drop⟩
    · have hm : Hid (mayB ⟨a, b⟩ = false) := by rw [Hid, hm.out]; simp [h1]
      have h1 : decide (b ≤ 32) = false := by simpa using h1
      refine wp_region_quiet_below (by kernel_rfl) (by kernel_rfl) ?_
      repeat (first | go_big_quiet_skip | (go_big_quiet_want; go_big_quiet_op; first | go_big_quiet_on | (apply Exists.intro; refine ⟨fun _ => ?_, ?_⟩; (fail); go_big_quiet_on)))
      refine wpQuiet_nil ?_
      intro Wq hw'
      obtain ⟨pq, hw''⟩ := hw'
      have hq := mem_of_regrown hw''
      clear hw''
      go_wp2
      go_ret
      exact ⟨by rw [hm.out]; rfl, (H.call hq).drop⟩
  · have hm : Hid (mayB ⟨a, b⟩ = false) := by rw [Hid, hm.out]; simp [h0]
    have h0 : decide (0 ≤ b) = false := by simpa using h0
    refine wp_region_quiet_below (by kernel_rfl) (by kernel_rfl) ?_
    repeat (first | go_big_quiet_skip | (go_big_quiet_want; go_big_quiet_op; first | go_big_quiet_on | (apply Exists.intro; refine ⟨fun _ => ?_, ?_⟩; (fail); go_big_quiet_on)))
    refine wpQuiet_nil ?_
    intro Wq hw'
    obtain ⟨pq, hw''⟩ := hw'
    have hq := mem_of_regrown hw''
    clear hw''
    go_wp2
    go_ret
    exact ⟨by rw [hm.out]; rfl, (H.call hq).drop⟩
def coversB (p q : Pf) : Bool := mayB p && mayB q && decide (p.bits ≤ q.bits) && (bits .and .u32 q.addr (maskB p.bits) == p.addr)
set_option maxHeartbeats 2000000 in
theorem covers_calls {w : World} (a b c d : Int) : Calls Try.prog 24 #[.agg #[.int .u32 a, .int .i64 b], .agg #[.int .u32 c, .int .i64 d]] w fun e W => e = .returned (.bool (coversB ⟨a, b⟩ ⟨c, d⟩)) ∧ Mem w W [] [] := by
  have H := ((MemM.start w).box 36 [.int .u32 a, .int .i64 b]).box 36 [.int .u32 c, .int .i64 d]
  go_enter Try.func24, Try.ntmps24
  go_wp2_with fail
  have e1 : (w.alloc (.cells #[.int .u32 a, .int .i64 b] 36)).heap.size = w.heap.size + 1 := by simp
  rw [e1] at H
  generalize w.heap.size = g at H ⊢
  generalize (w.alloc (.cells #[.int .u32 a, .int .i64 b] 36)).alloc (.cells #[.int .u32 c, .int .i64 d] 36) = W at H ⊢
  have c0 := cell_regrown (H.boxcell (.head _) 0 _ rfl).1
  have c1 := cell_regrown (H.boxcell (.head _) 1 _ rfl).1
  have c2 := cell_regrown (H.boxcell (.tail _ (.head _)) 0 _ rfl).1
  have c3 := cell_regrown (H.boxcell (.tail _ (.head _)) 1 _ rfl).1
  have hm1 : Hid (∀ W, Calls Try.prog 36 #[.agg #[.int .u32 a, .int .i64 b]] W fun e W' => e = .returned (.bool (mayB ⟨a, b⟩)) ∧ Mem W W' [] []) := fun W => may_calls a b
  have hm2 : Hid (∀ W, Calls Try.prog 36 #[.agg #[.int .u32 c, .int .i64 d]] W fun e W' => e = .returned (.bool (mayB ⟨c, d⟩)) ∧ Mem W W' [] []) := fun W => may_calls c d
  have hcv : Hid (coversB ⟨a, b⟩ ⟨c, d⟩ = (mayB ⟨a, b⟩ && mayB ⟨c, d⟩ && decide (b ≤ d) && (bits .and .u32 c (maskB b) == a))) := rfl
  generalize mayB ⟨a, b⟩ = m1 at hm1 hcv
  generalize mayB ⟨c, d⟩ = m2 at hm2 hcv
  cases m1
  · have hm : Hid (coversB ⟨a, b⟩ ⟨c, d⟩ = false) := by rw [Hid, hcv.out]; rfl
    refine wp_region_quiet_below (by kernel_rfl) (by kernel_rfl) ?_
    repeat (first | go_big_quiet_skip | (go_big_quiet_want; go_big_quiet_op; first | go_big_quiet_on | (apply Exists.intro; refine ⟨fun _ => ?_, ?_⟩; (first | (go_at_call_of 36 (Value.agg #[.int .u32 a, .int .i64 b]); exact calls_regrown hm1.out)); go_big_quiet_on)))
    refine wpQuiet_nil ?_
    intro Wq hw'
    obtain ⟨pq, hw''⟩ := hw'
    have hq := mem_of_regrown hw''
    clear hw''
    go_wp2
    go_ret
    exact ⟨by rw [hm.out]; rfl, (H.call hq).drop.drop⟩
  · cases m2
    · have hm : Hid (coversB ⟨a, b⟩ ⟨c, d⟩ = false) := by rw [Hid, hcv.out]; rfl
      refine wp_region_quiet_below (by kernel_rfl) (by kernel_rfl) ?_
      repeat (first | go_big_quiet_skip | (go_big_quiet_want; go_big_quiet_op; first | go_big_quiet_on | (apply Exists.intro; refine ⟨fun _ => ?_, ?_⟩; (first | (go_at_call_of 36 (Value.agg #[.int .u32 a, .int .i64 b]); exact calls_regrown hm1.out) | (go_at_call_of 36 (Value.agg #[.int .u32 c, .int .i64 d]); exact calls_regrown hm2.out)); go_big_quiet_on)))
      refine wpQuiet_nil ?_
      intro Wq hw'
      obtain ⟨pq, hw''⟩ := hw'
      have hq := mem_of_regrown hw''
      clear hw''
      go_wp2
      go_ret
      exact ⟨by rw [hm.out]; rfl, (H.call hq).drop.drop⟩
    · by_cases hbd : b ≤ d
      · have hm : Hid (coversB ⟨a, b⟩ ⟨c, d⟩ = (bits .and .u32 c (maskB b) == a)) := by rw [Hid, hcv.out]; simp [hbd]
        refine wp_region_quiet_below (by kernel_rfl) (by kernel_rfl) ?_
        repeat (first | go_big_quiet_skip | (go_big_quiet_want; go_big_quiet_op; first | go_big_quiet_on | (apply Exists.intro; refine ⟨fun _ => ?_, ?_⟩; (first | (go_at_call_of 36 (Value.agg #[.int .u32 a, .int .i64 b]); exact calls_regrown hm1.out) | (go_at_call_of 36 (Value.agg #[.int .u32 c, .int .i64 d]); exact calls_regrown hm2.out) | (go_at_call 37; exact calls_regrown' (fun W => mask_calls))); go_big_quiet_on)))
        refine wpQuiet_nil ?_
        intro Wq hw'
        obtain ⟨pq, hw''⟩ := hw'
        have hq := mem_of_regrown hw''
        clear hw''
        go_wp2
        go_ret
        exact ⟨by rw [hm.out]; rfl, (H.call hq).drop.drop⟩
      · have hm : Hid (coversB ⟨a, b⟩ ⟨c, d⟩ = false) := by rw [Hid, hcv.out]; simp [hbd]
        have hbd : decide (b ≤ d) = false := by simpa using hbd
        refine wp_region_quiet_below (by kernel_rfl) (by kernel_rfl) ?_
        repeat (first | go_big_quiet_skip | (go_big_quiet_want; go_big_quiet_op; first | go_big_quiet_on | (apply Exists.intro; refine ⟨fun _ => ?_, ?_⟩; (first | (go_at_call_of 36 (Value.agg #[.int .u32 a, .int .i64 b]); exact calls_regrown hm1.out) | (go_at_call_of 36 (Value.agg #[.int .u32 c, .int .i64 d]); exact calls_regrown hm2.out)); go_big_quiet_on)))
        refine wpQuiet_nil ?_
        intro Wq hw'
        obtain ⟨pq, hw''⟩ := hw'
        have hq := mem_of_regrown hw''
        clear hw''
        go_wp2
        go_ret
        exact ⟨by rw [hm.out]; rfl, (H.call hq).drop.drop⟩
end Go.Proofs.Ytncebbpnmpgjiaa.Pfx
