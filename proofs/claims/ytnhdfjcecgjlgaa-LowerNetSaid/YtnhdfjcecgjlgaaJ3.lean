/- Texts of this work, joined: Eq, Net. -/
import Derived.Test.YtnhdfjcecgjlgaaProg
import Derived.Test.YtnhdfjcecgjlgaaJ1
import Derived.Laws.StructEq
import Derived.Test.YtnhdfjcecgjlgaaPeer
import Derived.Test.YtnhdfjcecgjlgaaMix
import Derived.Test.YtnhdfjcecgjlgaaMap
section
namespace Go.Proofs.Ytnhdfjcecgjlgaa.Eq
open Go.RowKit Go.Proofs.Ytnhdfjcecgjlgaa.Mq
set_option linter.unusedVariables false
set_option linter.unusedSimpArgs false
set_option maxRecDepth 100000 in
theorem eqf_last {P : Program} {d : Nat} {xs ys : Array Value} {f : Field} {a b : Value} {r : Bool} {w : World} (hn : f.name ≠ "_") (ha : (part f.type xs f.offset).run P w = .ok a w) (hb : (part f.type ys f.offset).run P w = .ok b w) (he : (Op.equalIn d f.type a b).run P w = .ok r w) : (Op.eqFields d xs ys [f]).run P w = .ok r w := by
  simp only [Op.eqFields, if_pos hn, Sem.run_bind, ha, hb, he, Result.andThen_ok]; cases r <;> simp
theorem eqf_cons {P : Program} {d : Nat} {xs ys : Array Value} {f : Field} {fs : List Field} {a b : Value} {r s : Bool} {w : World} (hn : f.name ≠ "_") (ha : (part f.type xs f.offset).run P w = .ok a w) (hb : (part f.type ys f.offset).run P w = .ok b w) (he : (Op.equalIn d f.type a b).run P w = .ok r w) (hr : (Op.eqFields d xs ys fs).run P w = .ok s w) : (Op.eqFields d xs ys (f :: fs)).run P w = .ok (r && s) w := by
  rw [Op.eqFields]; simp only [if_pos hn, Sem.run_bind, ha, hb, he, Result.andThen_ok]; cases r
  · simp
  · simpa using hr
theorem eq_struct {P : Program} {d : Nat} {xs ys : Array Value} {t : TypeId} {fs : Array Field} {r : Bool} {w : World} (hu : P.underlying t = some (.struct fs)) (hp : P.stoodInHeld t = false) (h : (Op.eqFields d xs ys fs.toList).run P w = .ok r w) : (Op.equalIn (d + 1) t (.agg xs) (.agg ys)).run P w = .ok r w := by
  (have hf : P.fieldsOf t = fs := by simp [Program.fieldsOf, hu]); rw [run_equalIn_struct (P := P) w d t xs ys (by rw [hf]; exact hu) hp, hf]; exact h
theorem eqin_pf (w : World) (n : Nat) (a b c d : Int) : (Op.equalIn (n + 2) 36 (.agg #[.int .u32 a, .int .i64 b]) (.agg #[.int .u32 c, .int .i64 d])).run Try.prog w = .ok (a == c && b == d) w := by
  refine eq_struct Try.underlying36 (by kernel_rfl) (eqf_cons (a := .int .u32 a) (b := .int .u32 c) (by decide) ?_ ?_ ?_ (eqf_last (a := .int .i64 b) (b := .int .i64 d) (by decide) ?_ ?_ ?_))
  all_goals simp [part, Op.equalIn, isAgg, go_sem]
theorem eql_pf (w : World) (a b c d : Int) : (binOp .eql 36 (.agg #[.int .u32 a, .int .i64 b]) (.agg #[.int .u32 c, .int .i64 d])).run Try.prog w = .ok (.bool (a == c && b == d)) w := by
  simp only [binOp]; simp [Op.equal, Op.maxDepth, eqin_pf w 9998 a b c d]
end Go.Proofs.Ytnhdfjcecgjlgaa.Eq
end
section
namespace Go.Proofs.Ytnhdfjcecgjlgaa.Low
open Go.RowKit Go.Proofs.Ytnhdfjcecgjlgaa.Mq Go.Proofs.Ytnhdfjcecgjlgaa.Pfx Go.Proofs.Ytnhdfjcecgjlgaa.Cls Go.Proofs.Ytnhdfjcecgjlgaa.Map
set_option linter.unusedVariables false
set_option linter.unusedSimpArgs false
attribute [local go_sem] bs_list
attribute [local go_sem ↓] Eq.eql_pf
theorem spelled {W : World} {cs : List Value} {ad : Addr} {n : Nat} (h : ∀ (j : Nat) u, cs[j]? = some u → W.cell? (ad.add (n + j)) = some u) (j : Nat) (u : Value) (hj : cs[j + 1]? = some u) : W.cell? ⟨(ad.add n).block, (ad.add n).off + (j + 1), none⟩ = some u := by
  have h1 := h (j + 1) u hj; rw [← add_add] at h1; simpa [Addr.add] using h1
def indexB (ps : List Pf) (p : Pf) : Int := match ps.findIdx? (fun q => p == q) with | some k => k | none => -1
set_option maxHeartbeats 4000000 in
set_option maxRecDepth 100000 in
theorem index_calls {w : World} {A : Option Addr} {ps : List Pf} {n : Nat} (h : Row pfR w (· < w.heap.size) A ps) (a b : Int) :
    Calls Try.prog 27 #[.slice A ps.length n, .agg #[.int .u32 a, .int .i64 b]] w fun e W => e = .returned (.int .i64 (indexB ps ⟨a, b⟩)) ∧ Mem w W [] [] := by
  have H := (MemM.start w).box 36 [.int .u32 a, .int .i64 b]; have hl := h.len; unfold maxLen at hl; go_enter Try.func27, Try.ntmps27; go_wp2_with fail; generalize w.heap.size = g at H ⊢; generalize w.alloc (.cells #[.int .u32 a, .int .i64 b] 36) = W at H ⊢; go_loopw [8] (fun v8 W => ∃ k : Nat, k ≤ ps.length ∧ v8 = .int .i64 k ∧ Hid (∀ q ∈ ps.take k, q ≠ ⟨a, b⟩) ∧ Mem w W [] [box g 36 [.int .u32 a, .int .i64 b]]) (fun v8 _ => ps.length - (intOf v8).toNat)
  case atStart => exact ⟨0, Nat.zero_le _, rfl, (fun q hq => by simp at hq), H⟩
  case round =>
    clear H; obtain ⟨k, hk, rfl, hacc, H⟩ := hrel; by_cases hlt : k < ps.length
    · obtain ⟨q, hq⟩ : ∃ q, ps[k]? = some q := ⟨_, List.getElem?_eq_getElem hlt⟩
      obtain ⟨ad, rfl, hx⟩ := h.flat1 hq; have hx := oldcells H hx; have x0 := hx 0 _ rfl; have x1 := spelled hx 0 _ rfl; have c0 := (H.boxcell (.head _) 0 _ rfl).1; have c1 := (H.boxcell (.head _) 1 _ rfl).1; obtain ⟨pa, pb⟩ := q; simp only [Nat.add_zero] at x0; clear hx; have hmem := List.mem_of_getElem? hq; have hsn := hide (List.take_succ_eq_append_getElem hlt); (have hqk : Hid (ps[k] = ⟨pa, pb⟩) := by rw [List.getElem?_eq_getElem hlt] at hq; injection hq); by_cases he : a = pa ∧ b = pb
      · obtain ⟨rfl, rfl⟩ := he
        have hfin : Hid (indexB ps ⟨a, b⟩ = k) := by
          unfold indexB Hid
          rw [show ps.findIdx? (fun q => (⟨a, b⟩ : Pf) == q) = some k from by
            rw [List.findIdx?_eq_some_iff_getElem]; refine ⟨hlt, by simp [hqk.out], fun j hj => ?_⟩; have := hacc.out ps[j] (List.mem_take_iff_getElem.2 ⟨j, by omega, rfl⟩); simp
            exact fun e => this e.symm]
        clear hq hmem; (have e1 : (a == a && b == b) = true := by simp); go_wp2; go_quiet (fail); go_wp2; go_ret; exact ⟨by rw [hfin.out]; rfl, (H.drewN _).drop⟩
      · have e1 : (a == pa && b == pb) = false := by simpa using he
        have hnx : Hid (∀ q ∈ ps.take (k + 1), q ≠ ⟨a, b⟩) := by
          intro q hq2; rw [hsn.out, hqk.out] at hq2; rcases List.mem_append.1 hq2 with h | h
          · exact hacc.out q h
          · rw [List.mem_singleton.1 h]
            intro e; injection e with e2 e3; exact he ⟨e2.symm, e3.symm⟩
        clear hq hmem he; go_wp2; go_quiet (fail); go_wp2; go_roundw
        case rel => exact ⟨k + 1, by omega, by go_num, hnx, H.drewN _⟩
        case measure => simp [intOf]; omega
    · obtain rfl : k = ps.length := by omega
      have hfin : Hid (indexB ps ⟨a, b⟩ = -1) := by
        unfold indexB Hid
        rw [show ps.findIdx? (fun q => (⟨a, b⟩ : Pf) == q) = none from by
          rw [List.findIdx?_eq_none_iff]; intro q hq; have := hacc.out q (by rw [List.take_length]; exact hq); simp
          exact fun e => this e.symm]
      go_wp2; go_ret; exact ⟨by rw [hfin.out]; rfl, H.drop⟩
set_option maxHeartbeats 4000000 in
set_option maxRecDepth 100000 in
theorem contains_calls {w : World} {A : Option Addr} {ps : List Pf} {n : Nat} (h : Row pfR w (· < w.heap.size) A ps) (a b : Int) :
    Calls Try.prog 15 #[.slice A ps.length n, .agg #[.int .u32 a, .int .i64 b]] w fun e W => e = .returned (.bool (decide (0 ≤ indexB ps ⟨a, b⟩))) ∧ Mem w W [] [] := by
  have H := (MemM.start w).box 36 [.int .u32 a, .int .i64 b]; have hl := h.len; unfold maxLen at hl; go_enter Try.func15, Try.ntmps15; go_wp2_with fail; refine (index_calls (H.arg h) a b).mono ?_; rintro e W1 ⟨rfl, hm⟩; replace H := H.call hm; obtain ⟨k, hk⟩ : ∃ k, Hid (indexB ps ⟨a, b⟩ = k) := ⟨_, rfl⟩; rw [hk.out]; go_wp2; go_ret; exact ⟨by rw [hk.out]; rfl, H.drop⟩
end Go.Proofs.Ytnhdfjcecgjlgaa.Low
end
