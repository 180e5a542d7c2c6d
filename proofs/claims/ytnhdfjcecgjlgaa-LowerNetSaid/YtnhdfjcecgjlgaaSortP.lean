/- slices.SortFunc of prefixes, as lower.Classes calls it. -/
import Derived.Test.YtnhdfjcecgjlgaaJ4
import Derived.Test.YtnhdfjcecgjlgaaJ3
import Derived.Test.YtnhdfjcecgjlgaaJ1
import Derived.Test.YtnhdfjcecgjlgaaJ2
namespace Go.Proofs.Ytnhdfjcecgjlgaa.SortP
open Go.RowKit Go.Sort Go.Proofs.Ytnhdfjcecgjlgaa.Mq
set_option linter.unusedVariables false
set_option linter.unusedSimpArgs false
attribute [local go_sem ↓] Eq.eql_pf
instance : Inhabited Pf := ⟨⟨0, 0⟩⟩
def lessB (p q : Pf) : Bool := decide (p.addr < q.addr) || (p.addr == q.addr && decide (p.bits < q.bits))
def cfB (p q : Pf) : Int := if p = q then 0 else if lessB p q = true then -1 else 1
set_option maxHeartbeats 1000000 in
theorem less_calls (a b c d : Int) (W : World) : Calls Try.prog 18 #[.agg #[.int .u32 a, .int .i64 b], .agg #[.int .u32 c, .int .i64 d]] W fun e w' => e = .returned (.bool (lessB ⟨a, b⟩ ⟨c, d⟩)) ∧ ∃ os', w' = grow W os' := by
  by_cases h1 : a < c
  · have e1 : decide (a < c) = true := decide_eq_true h1
    (have e9 : lessB ⟨a, b⟩ ⟨c, d⟩ = true := by simp [lessB, h1]); rw [e9]; go_enter Try.func18, Try.ntmps18; go_wp2; go_ret; exact ⟨rfl, _, by rw [alloc_eq_grow, alloc_eq_grow, grow_grow]⟩
  · have e1 : decide (a < c) = false := decide_eq_false h1
    by_cases h2 : a = c
    · subst h2
      (have e2 : (a == a) = true := by simp); (have e9 : lessB ⟨a, b⟩ ⟨a, d⟩ = decide (b < d) := by simp [lessB]); rw [e9]; generalize hq : decide (b < d) = q; go_enter Try.func18, Try.ntmps18; go_wp2; go_ret; exact ⟨by simp [hq], _, by rw [alloc_eq_grow, alloc_eq_grow, grow_grow]⟩
    · have e2 : (a == c) = false := beq_eq_false_iff_ne.mpr h2
      (have e9 : lessB ⟨a, b⟩ ⟨c, d⟩ = false := by simp [lessB, h1, h2]); rw [e9]; go_enter Try.func18, Try.ntmps18; go_wp2; go_ret; exact ⟨rfl, _, by rw [alloc_eq_grow, alloc_eq_grow, grow_grow]⟩
set_option maxHeartbeats 1000000 in
theorem closure_calls (p q : Pf) (W : World) : Calls Try.prog 17 #[.agg #[.int .u32 p.addr, .int .i64 p.bits], .agg #[.int .u32 q.addr, .int .i64 q.bits]] W fun e w' => e = .returned (.int .i64 (cfB p q)) ∧ ∃ n os', w' = grow (W.drewN n) os' := by
  obtain ⟨a, b⟩ := p; obtain ⟨c, d⟩ := q; have hl := less_calls a b c d; by_cases he : a = c ∧ b = d
  · obtain ⟨rfl, rfl⟩ := he
    (have e1 : (a == a && b == b) = true := by simp); (have e9 : cfB ⟨a, b⟩ ⟨a, b⟩ = 0 := by simp [cfB]); rw [e9]; go_enter Try.func17, Try.ntmps17; go_wp2; go_ret; exact ⟨rfl, 0, _, by rw [alloc_eq_grow, alloc_eq_grow, grow_grow]; rfl⟩
  · have e1 : (a == c && b == d) = false := by
      cases h : (a == c && b == d) with
      | false => rfl
      | true =>
        simp at h; exact absurd h he
    have e9 : cfB ⟨a, b⟩ ⟨c, d⟩ = if lessB ⟨a, b⟩ ⟨c, d⟩ = true then -1 else 1 := by
      unfold cfB; rw [if_neg (by intro h; injection h with h1 h2; exact he ⟨h1, h2⟩)]
    rw [e9]; generalize lessB ⟨a, b⟩ ⟨c, d⟩ = lb at hl; cases lb
    all_goals
      go_enter Try.func17, Try.ntmps17; go_wp2_with (go_at_call 18; refine (hl _).mono ?_; rintro e w' ⟨rfl, os', rfl⟩); go_ret; exact ⟨rfl, 0, _, by rw [alloc_eq_grow, alloc_eq_grow, grow_grow, grow_grow]; rfl⟩
theorem lt_eq (p q : Pf) : ltOf cfB p q = lessB p q := by
  unfold ltOf cfB; by_cases h : p = q
  · subst h
    simp [lessB]
  · rw [if_neg h]
    cases lessB p q <;> simp
theorem swo : SWO (ltOf cfB) where
  irrefl x := by rw [lt_eq]; simp [lessB]
  trans x y z h1 h2 := by
    rw [lt_eq] at *; simp only [lessB, Bool.or_eq_true, decide_eq_true_eq, Bool.and_eq_true, beq_iff_eq] at *; omega
  ntrans x y z h1 h2 := by
    rw [lt_eq] at *; simp only [lessB, Bool.or_eq_false_iff, decide_eq_false_iff_not, Bool.and_eq_false_iff, beq_eq_false_iff_ne] at *; omega
theorem total (x y : Pf) (h1 : ltOf cfB x y = false) (h2 : ltOf cfB y x = false) : x = y := by
  rw [lt_eq] at *; simp only [lessB, Bool.or_eq_false_iff, decide_eq_false_iff_not, Bool.and_eq_false_iff, beq_eq_false_iff_ne] at *; cases x; cases y; simp only at *; congr 1 <;> omega
def leB (x y : Pf) : Bool := !(lessB y x)
theorem cmpLays (blk off size : Nat) (w : World) : CmpLays Try.prog 17 #[] Pf.enc 2 cfB blk off size w :=
  fun _ _ _ _ x y => closure_calls x y _
theorem take_put (F cur : Array Value) (h : F.size ≤ cur.size) : (putCells (fun v : Value => v) 0 F cur).toList.take F.size = F.toList := by
  apply List.ext_getElem?; intro i; rw [List.getElem?_take]; by_cases hi : i < F.size
  · rw [if_pos hi]
    simp [putCells, hi, show i < cur.size by omega]
  · rw [if_neg hi, List.getElem?_eq_none (by simpa using hi)]
theorem flat_at (ys : List Pf) (j i : Nat) (p : Pf) (hj : ys[j]? = some p) (hi : i < 2) : (flatK Pf.enc 2 ys.toArray)[j * 2 + i]? = (p.enc)[i]? := by
  obtain ⟨hj1, rfl⟩ := List.getElem?_eq_some_iff.1 hj; (have ht : j * 2 + i < ys.toArray.size * 2 := by simp; omega); have h := get_flatK Pf.enc 2 ys.toArray (j * 2 + i) ht; rw [getElem!_pos _ _ (by simpa using ht)] at h; rw [Array.getElem?_eq_getElem (by simpa using ht), h, show (j * 2 + i) / 2 = j by omega, show (j * 2 + i) % 2 = i by omega]
  have e1 : ys.toArray[j]! = ys[j] := by
    rw [getElem!_pos _ _ (by simpa using hj1)]; rfl
  rw [e1]; have hl : i < (ys[j].enc).length := hi; rw [getElem!_pos (ys[j].enc) i hl, List.getElem?_eq_getElem hl]
theorem sortp_mem {M Z : Nat → Prop} {w0 W : World} {R l : List Asr} {v : Value} {xs : List Pf} (H : MemM M Z w0 W R (own pfR 36 v xs :: l)) (hl : xs.length < 4611686018427387904) :
    Calls Try.prog 16 #[v, .func (.func 17) #[] #[]] W fun e W1 => e = .returned (.tuple #[]) ∧ MemM M Z w0 W1 R (own pfR 36 v (xs.mergeSort leB) :: l) := by
  obtain ⟨F, S, ⟨h1, cells, ⟨hil, ho⟩, hr⟩, h2, h3, h4, h5, h6⟩ := H.open1; rcases ho with ⟨rfl, hn⟩ | ⟨g, cap, cur, rfl, hg, hh, hn, hm, hs, ht⟩
  · have : xs = [] := List.eq_nil_of_length_eq_zero hn
    subst this; have hcon := AnyF.slices_SortFunc_none (P := Try.prog) (ρ := Try.sortPfx_ren) Try.sortPfx none 0 (.func (.func 17) #[] #[]) W; refine hcon.mono ?_; rintro e w' ⟨rfl, rfl⟩; exact ⟨rfl, by simpa using H⟩
  · have hgs : g < W.heap.size := (Array.getElem?_eq_some_iff.1 hh).1
    (have hcs : xs.length * 2 ≤ cur.size := by rw [hs]; show xs.length * 2 ≤ cap * 2; omega); have hfs : (flatK Pf.enc 2 xs.toArray).size = xs.length * 2 := by simp
    have hH : HoldsK Pf.enc 2 W g 0 xs.toArray := by
      intro t htt; rw [hfs] at htt; (have hj : t / 2 < xs.length := by omega); have hp := hr.2 (t / 2) xs[t / 2] (List.getElem?_eq_getElem hj); have hp' : ((cells.drop (t / 2 * 2)).take 2) = xs[t / 2].enc := hp; have hc := Reps.cells hr (List.getElem?_eq_getElem hj) (show t % 2 < 2 by omega); have hc' : cells[t / 2 * 2 + t % 2]? = ((cells.drop (t / 2 * 2)).take 2)[t % 2]? := hc; rw [hp', ← flat_at xs (t / 2) (t % 2) _ (List.getElem?_eq_getElem hj) (by omega), show t / 2 * 2 + t % 2 = t by omega] at hc'; rw [Array.getElem?_eq_getElem (by rw [hfs]; exact htt)] at hc'
      have hcur : cur[t]? = some (flatK Pf.enc 2 xs.toArray)[t] := by
        rw [← ht, List.getElem?_take] at hc'; split at hc'
        · simpa using hc'
        · cases hc'
      refine ⟨?_, ?_⟩
      · rw [Nat.zero_add, getElem!_pos _ _ (by rw [hfs]; exact htt)]
        simp [World.cell?, hh, hcur]
      · simp [World.frozen?, hh]
    have hcon := AnyQ.slices_SortFunc_total (P := Try.prog) (ρ := Try.sortPfx_ren) Try.sortPfx 2 Try.isAgg36 Try.sizeOf36 Pf.enc (fun _ => rfl) (fun x v hv => by simp [Pf.enc] at hv; rcases hv with rfl | rfl <;> rfl) cfB swo 17 #[] g 0 cap xs.toArray W (enters_of Try.func17 (by kernel_rfl) rfl) (cmpLays g 0 _ W) hH hgs (by simpa using hl) total
    have hcon' : Calls Try.prog 16 #[.slice (some ⟨g, 0, none⟩) xs.length cap, .func (.func 17) #[] #[]] W fun e w' => e = .returned (.tuple #[]) ∧ ∃ n os, w' = sortWorldK Pf.enc 2 W g 0 n (xs.mergeSort leB).toArray os := by
      have e : (xs.toArray.toList.mergeSort fun x y => !(ltOf cfB) y x) = xs.mergeSort leB := by
        have : (fun x y => !(ltOf cfB) y x) = leB := by
          funext x y; rw [lt_eq]; rfl
        rw [this]
      rw [e] at hcon; exact hcon
    refine hcon'.mono ?_; rintro e w' ⟨rfl, m, os, rfl⟩; generalize hys : xs.mergeSort leB = ys; (have hyl : ys.length = xs.length := by rw [← hys]; simp); have hyf : (flatK Pf.enc 2 ys.toArray).size = xs.length * 2 := by simp [hyl]
    have hb : ∀ k, k < W.heap.size → (sortWorldK Pf.enc 2 W g 0 m ys.toArray os).heap[k]? = if k = g then some (.cells (putCells (fun v : Value => v) 0 (flatK Pf.enc 2 ys.toArray) cur) 36 (0, 0)) else W.heap[k]? := by
      intro k hk; unfold sortWorldK putRowK; rw [heap_grow_old _ _ (by simpa [putRow, mapBlock, Go.Sort.ahead] using hk)]; unfold putRow mapBlock Go.Sort.ahead; simp only [Array.getElem?_modify]; by_cases hkg : k = g
      · subst hkg
        simp [hh, onCells]; rfl
      · simp [hkg, Ne.symm hkg]
    (have hsz : W.heap.size ≤ (sortWorldK Pf.enc 2 W g 0 m ys.toArray os).heap.size := by simp [sortWorldK, putRowK, grow, putRow, mapBlock, Go.Sort.ahead]); refine ⟨rfl, h6 _ (own pfR 36 (.slice (some ⟨g, 0, none⟩) xs.length cap) ys) (some g) ⟨rfl, rfl, rfl, hsz, fun k hk hne => ?_⟩ (fun k e => h1 k e) ⟨fun k hk => .inl (h1 k hk), (flatK Pf.enc 2 ys.toArray).toList, ⟨?_, .inr ⟨g, cap, _, by rw [hyl], hg, (hb g hgs).trans (if_pos rfl), by rw [hyl]; exact hn, hm, ?_, ?_⟩⟩, ?_, ?_⟩⟩
    · rw [hb k hk, if_neg (fun e : k = g => hne (by rw [e]))]
    · show _ = ys.length * 2
      rw [Array.length_toList, hyf, hyl]
    · simp only [putCells, Array.size_mapIdx]; exact hs
    · show List.take (ys.length * 2) _ = _
      rw [hyl, ← hyf]; exact take_put _ cur (by rw [hyf]; exact hcs)
    · show _ = ys.length * 2
      rw [Array.length_toList, hyf, hyl]
    · intro j p hj
      show (((flatK Pf.enc 2 ys.toArray).toList.drop (j * 2)).take 2) = p.enc; have hj1 := (List.getElem?_eq_some_iff.1 hj).1; apply List.ext_getElem?; intro i; rw [List.getElem?_take]; by_cases hi : i < 2
      · rw [if_pos hi, List.getElem?_drop, Array.getElem?_toList, flat_at ys j i p hj hi]
      · rw [if_neg hi, List.getElem?_eq_none (by show 2 ≤ i; omega)]
end Go.Proofs.Ytnhdfjcecgjlgaa.SortP
