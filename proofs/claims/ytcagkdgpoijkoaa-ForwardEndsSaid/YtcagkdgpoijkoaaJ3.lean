/- Texts of this work, joined: SortS, Eq, SortP, Pfx, Cl. -/
import Derived.Shelf.SlSortCmp.NoneTotal
import Derived.Test.YtcagkdgpoijkoaaProg
import Derived.Test.YtcagkdgpoijkoaaJ1
import Derived.Laws.StructEq
import Derived.Test.YtcagkdgpoijkoaaJ2
import Derived.Test.YtcagkdgpoijkoaaMq
section
namespace Go.Proofs
open Go.Shelf
def Try.sortPfx_ren : Go.Shelf.Ren := ⟨fun | 6 => 37 | 15 => 45 | 14 => 49 | 28 => 61 | 29 => 62 | 20 => 64 | 21 => 65 | 22 => 66 | 23 => 67 | 24 => 68 | 25 => 69 | 26 => 70 | 27 => 71 | 46 => 80 | 47 => 75 | 48 => 76 | 49 => 81 | 50 => 82 | 57 => 84 | n => n, fun | 22 => 72 | 24 => 35 | 25 => 101 | 3 => 3 | 39 => 111 | 0 => 0 | 53 => 33 | 55 => 131 | 4 => 4 | 46 => 123 | 45 => 122 | 50 => 105 | 5 => 5 | 9 => 9 | 66 => 140 | 70 => 144 | 76 => 149 | 77 => 150 | n => n, fun | n => n⟩
theorem Try.sortPfx : Go.Proofs.SlLaysF0.n6 Try.prog Try.sortPfx_ren := {
  mixed := by kernel_rfl
  f6 := ⟨Try.f37.name, by decide, Try.func37.trans (congrArg some (by kernel_rfl))⟩
  f14 := ⟨Try.f49.name, by decide, Try.func49.trans (congrArg some (by kernel_rfl))⟩
  f15 := Try.func45.trans (congrArg some (by kernel_rfl))
  f20 := ⟨Try.f64.name, by decide, Try.func64.trans (congrArg some (by kernel_rfl))⟩
  f21 := ⟨Try.f65.name, by decide, Try.func65.trans (congrArg some (by kernel_rfl))⟩
  f22 := ⟨Try.f66.name, by decide, Try.func66.trans (congrArg some (by kernel_rfl))⟩
  f23 := ⟨Try.f67.name, by decide, Try.func67.trans (congrArg some (by kernel_rfl))⟩
  f24 := ⟨Try.f68.name, by decide, Try.func68.trans (congrArg some (by kernel_rfl))⟩
  f25 := ⟨Try.f69.name, by decide, Try.func69.trans (congrArg some (by kernel_rfl))⟩
  f26 := ⟨Try.f70.name, by decide, Try.func70.trans (congrArg some (by kernel_rfl))⟩
  f27 := ⟨Try.f71.name, by decide, Try.func71.trans (congrArg some (by kernel_rfl))⟩
  f28 := Try.func61.trans (congrArg some (by kernel_rfl))
  f29 := Try.func62.trans (congrArg some (by kernel_rfl))
  f46 := ⟨Try.f80.name, by decide, Try.func80.trans (congrArg some (by kernel_rfl))⟩
  f47 := Try.func75.trans (congrArg some (by kernel_rfl))
  f48 := Try.func76.trans (congrArg some (by kernel_rfl))
  f49 := ⟨Try.f81.name, by decide, Try.func81.trans (congrArg some (by kernel_rfl))⟩
  f50 := ⟨Try.f82.name, by decide, Try.func82.trans (congrArg some (by kernel_rfl))⟩
  f57 := ⟨Try.f84.name, by decide, Try.func84.trans (congrArg some (by kernel_rfl))⟩
  t0 := Try.underlying0
  a0 := Try.isAgg0
  z0 := Try.sizeOf0
  v0 := Try.zeroValue0
  t3 := Try.underlying3
  a3 := Try.isAgg3
  z3 := Try.sizeOf3
  v3 := Try.zeroValue3
  t4 := Try.underlying4
  a4 := Try.isAgg4
  z4 := Try.sizeOf4
  v4 := Try.zeroValue4
  t5 := Try.underlying5
  a5 := Try.isAgg5
  z5 := Try.sizeOf5
  v5 := Try.zeroValue5
  t9 := Try.underlying9
  a9 := Try.isAgg9
  z9 := Try.sizeOf9
  v9 := Try.zeroValue9
  t22 := Try.underlying72
  a22 := Try.isAgg72
  z22 := Try.sizeOf72
  v22 := Try.zeroValue72
  t25 := Try.underlying101
  a25 := Try.isAgg101
  z25 := Try.sizeOf101
  v25 := Try.zeroValue101
  t39 := Try.underlying111
  a39 := Try.isAgg111
  z39 := Try.sizeOf111
  v39 := Try.zeroValue111
  t45 := Try.underlying122
  a45 := Try.isAgg122
  z45 := Try.sizeOf122
  v45 := Try.zeroValue122
  t46 := Try.underlying123
  a46 := Try.isAgg123
  z46 := Try.sizeOf123
  v46 := Try.zeroValue123
  t50 := Try.underlying105
  a50 := Try.isAgg105
  z50 := Try.sizeOf105
  v50 := Try.zeroValue105
  t53 := Try.underlying33
  a53 := Try.isAgg33
  z53 := Try.sizeOf33
  v53 := Try.zeroValue33
  t55 := Try.underlying131
  a55 := Try.isAgg131
  z55 := Try.sizeOf131
  v55 := Try.zeroValue131
  t66 := Try.underlying140
  a66 := Try.isAgg140
  z66 := Try.sizeOf140
  v66 := Try.zeroValue140
  t70 := Try.underlying144
  a70 := Try.isAgg144
  z70 := Try.sizeOf144
  v70 := Try.zeroValue144
  t76 := Try.underlying149
  a76 := Try.isAgg149
  z76 := Try.sizeOf149
  v76 := Try.zeroValue149
  t77 := Try.underlying150
  a77 := Try.isAgg150
  z77 := Try.sizeOf150
  v77 := Try.zeroValue150 }
end Go.Proofs
end
section
namespace Go.Proofs.Ytcagkdgpoijkoaa.Eq
open Go.RowKit Go.Proofs.Ytcagkdgpoijkoaa.Mq
set_option linter.unusedVariables false
set_option linter.unusedSimpArgs false
set_option maxRecDepth 100000 in
theorem eqf_last {P : Program} {d : Nat} {xs ys : Array Value} {f : Field} {a b : Value} {r : Bool} {w : World} (hn : f.name ≠ "_") (ha : (part f.type xs f.offset).run P w = .ok a w) (hb : (part f.type ys f.offset).run P w = .ok b w) (he : (Op.equalIn d f.type a b).run P w = .ok r w) : (Op.eqFields d xs ys [f]).run P w = .ok r w := by
  simp only [Op.eqFields, if_pos hn, Sem.run_bind, ha, hb, he, Result.andThen_ok]; cases r <;> simp
theorem eqf_cons {P : Program} {d : Nat} {xs ys : Array Value} {f : Field} {fs : List Field} {a b : Value} {r s : Bool} {w : World} (hn : f.name ≠ "_") (ha : (part f.type xs f.offset).run P w = .ok a w) (hb : (part f.type ys f.offset).run P w = .ok b w) (he : (Op.equalIn d f.type a b).run P w = .ok r w) (hr : (Op.eqFields d xs ys fs).run P w = .ok s w) : (Op.eqFields d xs ys (f :: fs)).run P w = .ok (r && s) w := by
  rw [Op.eqFields]; simp only [if_pos hn, Sem.run_bind, ha, hb, he, Result.andThen_ok]; cases r
  · simp
  · simpa using hr
theorem eq_struct {P : Program} {d : Nat} {xs ys : Array Value} {t : TypeId} {fs : Array Field} {r : Bool} {w : World} (hu : P.underlying t = some (.struct fs)) (hp : P.stoodInHeld t = false) (h : (Op.eqFields d xs ys fs.toList).run P w = .ok r w) : (Op.equalIn (d + 1) t (.agg xs) (.agg ys)).run P w = .ok r w := by
  (have hf : P.fieldsOf t = fs := by simp [Program.fieldsOf, hu]); rw [run_equalIn_struct (P := P) w d t xs ys (by rw [hf]; exact hu) hp, hf]; exact h
theorem eqin_pf (w : World) (n : Nat) (a b c d : Int) : (Op.equalIn (n + 2) 35 (.agg #[.int .u32 a, .int .i64 b]) (.agg #[.int .u32 c, .int .i64 d])).run Try.prog w = .ok (a == c && b == d) w := by
  refine eq_struct Try.underlying35 (by kernel_rfl) (eqf_cons (a := .int .u32 a) (b := .int .u32 c) (by decide) ?_ ?_ ?_ (eqf_last (a := .int .i64 b) (b := .int .i64 d) (by decide) ?_ ?_ ?_))
  all_goals simp [part, Op.equalIn, isAgg, go_sem]
theorem eql_pf (w : World) (a b c d : Int) : (binOp .eql 35 (.agg #[.int .u32 a, .int .i64 b]) (.agg #[.int .u32 c, .int .i64 d])).run Try.prog w = .ok (.bool (a == c && b == d)) w := by
  simp only [binOp]; simp [Op.equal, Op.maxDepth, eqin_pf w 9998 a b c d]
end Go.Proofs.Ytcagkdgpoijkoaa.Eq
end
section
namespace Go.Proofs.Ytcagkdgpoijkoaa.SortP
open Go.RowKit Go.Sort Go.Proofs.Ytcagkdgpoijkoaa.Mq
set_option linter.unusedVariables false
set_option linter.unusedSimpArgs false
attribute [local go_sem ↓] Eq.eql_pf
instance : Inhabited Pf := ⟨⟨0, 0⟩⟩
def lessB (p q : Pf) : Bool := decide (p.addr < q.addr) || (p.addr == q.addr && decide (p.bits < q.bits))
def cfB (p q : Pf) : Int := if p = q then 0 else if lessB p q = true then -1 else 1
set_option maxHeartbeats 1000000 in
theorem less_calls (a b c d : Int) (W : World) : Calls Try.prog 39 #[.agg #[.int .u32 a, .int .i64 b], .agg #[.int .u32 c, .int .i64 d]] W fun e w' => e = .returned (.bool (lessB ⟨a, b⟩ ⟨c, d⟩)) ∧ ∃ os', w' = grow W os' := by
  by_cases h1 : a < c
  · have e1 : decide (a < c) = true := decide_eq_true h1
    (have e9 : lessB ⟨a, b⟩ ⟨c, d⟩ = true := by simp [lessB, h1]); rw [e9]; go_enter Try.func39, Try.ntmps39; go_wp2; go_ret; exact ⟨rfl, _, by rw [alloc_eq_grow, alloc_eq_grow, grow_grow]⟩
  · have e1 : decide (a < c) = false := decide_eq_false h1
    by_cases h2 : a = c
    · subst h2
      (have e2 : (a == a) = true := by simp); (have e9 : lessB ⟨a, b⟩ ⟨a, d⟩ = decide (b < d) := by simp [lessB]); rw [e9]; generalize hq : decide (b < d) = q; go_enter Try.func39, Try.ntmps39; go_wp2; go_ret; exact ⟨by simp [hq], _, by rw [alloc_eq_grow, alloc_eq_grow, grow_grow]⟩
    · have e2 : (a == c) = false := beq_eq_false_iff_ne.mpr h2
      (have e9 : lessB ⟨a, b⟩ ⟨c, d⟩ = false := by simp [lessB, h1, h2]); rw [e9]; go_enter Try.func39, Try.ntmps39; go_wp2; go_ret; exact ⟨rfl, _, by rw [alloc_eq_grow, alloc_eq_grow, grow_grow]⟩
set_option maxHeartbeats 1000000 in
theorem closure_calls (p q : Pf) (W : World) : Calls Try.prog 38 #[.agg #[.int .u32 p.addr, .int .i64 p.bits], .agg #[.int .u32 q.addr, .int .i64 q.bits]] W fun e w' => e = .returned (.int .i64 (cfB p q)) ∧ ∃ n os', w' = grow (W.drewN n) os' := by
  obtain ⟨a, b⟩ := p; obtain ⟨c, d⟩ := q; have hl := less_calls a b c d; by_cases he : a = c ∧ b = d
  · obtain ⟨rfl, rfl⟩ := he
    (have e1 : (a == a && b == b) = true := by simp); (have e9 : cfB ⟨a, b⟩ ⟨a, b⟩ = 0 := by simp [cfB]); rw [e9]; go_enter Try.func38, Try.ntmps38; go_wp2; go_ret; exact ⟨rfl, 0, _, by rw [alloc_eq_grow, alloc_eq_grow, grow_grow]; rfl⟩
  · have e1 : (a == c && b == d) = false := by
      cases h : (a == c && b == d) with
      | false => rfl
      | true =>
        simp at h; exact absurd h he
    have e9 : cfB ⟨a, b⟩ ⟨c, d⟩ = if lessB ⟨a, b⟩ ⟨c, d⟩ = true then -1 else 1 := by
      unfold cfB; rw [if_neg (by intro h; injection h with h1 h2; exact he ⟨h1, h2⟩)]
    rw [e9]; generalize lessB ⟨a, b⟩ ⟨c, d⟩ = lb at hl; cases lb
    all_goals
      go_enter Try.func38, Try.ntmps38; go_wp2_with (go_at_call 39; refine (hl _).mono ?_; rintro e w' ⟨rfl, os', rfl⟩); go_ret; exact ⟨rfl, 0, _, by rw [alloc_eq_grow, alloc_eq_grow, grow_grow, grow_grow]; rfl⟩
theorem lt_eq (p q : Pf) : ltOf cfB p q = lessB p q := by
  unfold ltOf cfB; by_cases h : p = q
  · subst h
    simp [lessB]
  · rw [if_neg h]
    cases lessB p q <;> simp
theorem swo : SWO (ltOf cfB) where
  irrefl x := by rw [lt_eq]; simp [lessB]
  trans x y z h1 h2 := by
    rw [lt_eq] at *; simp only [lessB, Bool.or_eq_true, decide_eq_true_eq, Bool.and_eq_true, beq_iff_eq] at *; omega
  ntrans x y z h1 h2 := by
    rw [lt_eq] at *; simp only [lessB, Bool.or_eq_false_iff, decide_eq_false_iff_not, Bool.and_eq_false_iff, beq_eq_false_iff_ne] at *; omega
theorem total (x y : Pf) (h1 : ltOf cfB x y = false) (h2 : ltOf cfB y x = false) : x = y := by
  rw [lt_eq] at *; simp only [lessB, Bool.or_eq_false_iff, decide_eq_false_iff_not, Bool.and_eq_false_iff, beq_eq_false_iff_ne] at *; cases x; cases y; simp only at *; congr 1 <;> omega
def leB (x y : Pf) : Bool := !(lessB y x)
theorem cmpLays (blk off size : Nat) (w : World) : CmpLays Try.prog 38 #[] Pf.enc 2 cfB blk off size w :=
  fun _ _ _ _ x y => closure_calls x y _
theorem take_put (F cur : Array Value) (h : F.size ≤ cur.size) : (putCells (fun v : Value => v) 0 F cur).toList.take F.size = F.toList := by
  apply List.ext_getElem?; intro i; rw [List.getElem?_take]; by_cases hi : i < F.size
  · rw [if_pos hi]
    simp [putCells, hi, show i < cur.size by omega]
  · rw [if_neg hi, List.getElem?_eq_none (by simpa using hi)]
theorem flat_at (ys : List Pf) (j i : Nat) (p : Pf) (hj : ys[j]? = some p) (hi : i < 2) : (flatK Pf.enc 2 ys.toArray)[j * 2 + i]? = (p.enc)[i]? := by
  obtain ⟨hj1, rfl⟩ := List.getElem?_eq_some_iff.1 hj; (have ht : j * 2 + i < ys.toArray.size * 2 := by simp; omega); have h := get_flatK Pf.enc 2 ys.toArray (j * 2 + i) ht; rw [getElem!_pos _ _ (by simpa using ht)] at h; rw [Array.getElem?_eq_getElem (by simpa using ht), h, show (j * 2 + i) / 2 = j by omega, show (j * 2 + i) % 2 = i by omega]
  have e1 : ys.toArray[j]! = ys[j] := by
    rw [getElem!_pos _ _ (by simpa using hj1)]; rfl
  rw [e1]; have hl : i < (ys[j].enc).length := hi; rw [getElem!_pos (ys[j].enc) i hl, List.getElem?_eq_getElem hl]
theorem sortp_mem {M Z : Nat → Prop} {w0 W : World} {R l : List Asr} {v : Value} {xs : List Pf} (H : MemM M Z w0 W R (own pfR 35 v xs :: l)) (hl : xs.length < 4611686018427387904) :
    Calls Try.prog 37 #[v, .func (.func 38) #[] #[]] W fun e W1 => e = .returned (.tuple #[]) ∧ MemM M Z w0 W1 R (own pfR 35 v (xs.mergeSort leB) :: l) := by
  obtain ⟨F, S, ⟨h1, cells, ⟨hil, ho⟩, hr⟩, h2, h3, h4, h5, h6⟩ := H.open1; rcases ho with ⟨rfl, hn⟩ | ⟨g, cap, cur, rfl, hg, hh, hn, hm, hs, ht⟩
  · have : xs = [] := List.eq_nil_of_length_eq_zero hn
    subst this; have hcon := AnyF.slices_SortFunc_none (P := Try.prog) (ρ := Try.sortPfx_ren) Try.sortPfx none 0 (.func (.func 38) #[] #[]) W; refine hcon.mono ?_; rintro e w' ⟨rfl, rfl⟩; exact ⟨rfl, by simpa using H⟩
  · have hgs : g < W.heap.size := (Array.getElem?_eq_some_iff.1 hh).1
    (have hcs : xs.length * 2 ≤ cur.size := by rw [hs]; show xs.length * 2 ≤ cap * 2; omega); have hfs : (flatK Pf.enc 2 xs.toArray).size = xs.length * 2 := by simp
    have hH : HoldsK Pf.enc 2 W g 0 xs.toArray := by
      intro t htt; rw [hfs] at htt; (have hj : t / 2 < xs.length := by omega); have hp := hr.2 (t / 2) xs[t / 2] (List.getElem?_eq_getElem hj); have hp' : ((cells.drop (t / 2 * 2)).take 2) = xs[t / 2].enc := hp; have hc := Reps.cells hr (List.getElem?_eq_getElem hj) (show t % 2 < 2 by omega); have hc' : cells[t / 2 * 2 + t % 2]? = ((cells.drop (t / 2 * 2)).take 2)[t % 2]? := hc; rw [hp', ← flat_at xs (t / 2) (t % 2) _ (List.getElem?_eq_getElem hj) (by omega), show t / 2 * 2 + t % 2 = t by omega] at hc'; rw [Array.getElem?_eq_getElem (by rw [hfs]; exact htt)] at hc'
      have hcur : cur[t]? = some (flatK Pf.enc 2 xs.toArray)[t] := by
        rw [← ht, List.getElem?_take] at hc'; split at hc'
        · simpa using hc'
        · cases hc'
      refine ⟨?_, ?_⟩
      · rw [Nat.zero_add, getElem!_pos _ _ (by rw [hfs]; exact htt)]
        simp [World.cell?, hh, hcur]
      · simp [World.frozen?, hh]
    have hcon := AnyQ.slices_SortFunc_total (P := Try.prog) (ρ := Try.sortPfx_ren) Try.sortPfx 2 Try.isAgg35 Try.sizeOf35 Pf.enc (fun _ => rfl) (fun x v hv => by simp [Pf.enc] at hv; rcases hv with rfl | rfl <;> rfl) cfB swo 38 #[] g 0 cap xs.toArray W (enters_of Try.func38 (by kernel_rfl) rfl) (cmpLays g 0 _ W) hH hgs (by simpa using hl) total
    have hcon' : Calls Try.prog 37 #[.slice (some ⟨g, 0, none⟩) xs.length cap, .func (.func 38) #[] #[]] W fun e w' => e = .returned (.tuple #[]) ∧ ∃ n os, w' = sortWorldK Pf.enc 2 W g 0 n (xs.mergeSort leB).toArray os := by
      have e : (xs.toArray.toList.mergeSort fun x y => !(ltOf cfB) y x) = xs.mergeSort leB := by
        have : (fun x y => !(ltOf cfB) y x) = leB := by
          funext x y; rw [lt_eq]; rfl
        rw [this]
      rw [e] at hcon; exact hcon
    refine hcon'.mono ?_; rintro e w' ⟨rfl, m, os, rfl⟩; generalize hys : xs.mergeSort leB = ys; (have hyl : ys.length = xs.length := by rw [← hys]; simp); have hyf : (flatK Pf.enc 2 ys.toArray).size = xs.length * 2 := by simp [hyl]
    have hb : ∀ k, k < W.heap.size → (sortWorldK Pf.enc 2 W g 0 m ys.toArray os).heap[k]? = if k = g then some (.cells (putCells (fun v : Value => v) 0 (flatK Pf.enc 2 ys.toArray) cur) 35 (0, 0)) else W.heap[k]? := by
      intro k hk; unfold sortWorldK putRowK; rw [heap_grow_old _ _ (by simpa [putRow, mapBlock, Go.Sort.ahead] using hk)]; unfold putRow mapBlock Go.Sort.ahead; simp only [Array.getElem?_modify]; by_cases hkg : k = g
      · subst hkg
        simp [hh, onCells]; rfl
      · simp [hkg, Ne.symm hkg]
    (have hsz : W.heap.size ≤ (sortWorldK Pf.enc 2 W g 0 m ys.toArray os).heap.size := by simp [sortWorldK, putRowK, grow, putRow, mapBlock, Go.Sort.ahead]); refine ⟨rfl, h6 _ (own pfR 35 (.slice (some ⟨g, 0, none⟩) xs.length cap) ys) (some g) ⟨rfl, rfl, rfl, hsz, fun k hk hne => ?_⟩ (fun k e => h1 k e) ⟨fun k hk => .inl (h1 k hk), (flatK Pf.enc 2 ys.toArray).toList, ⟨?_, .inr ⟨g, cap, _, by rw [hyl], hg, (hb g hgs).trans (if_pos rfl), by rw [hyl]; exact hn, hm, ?_, ?_⟩⟩, ?_, ?_⟩⟩
    · rw [hb k hk, if_neg (fun e : k = g => hne (by rw [e]))]
    · show _ = ys.length * 2
      rw [Array.length_toList, hyf, hyl]
    · simp only [putCells, Array.size_mapIdx]; exact hs
    · show List.take (ys.length * 2) _ = _
      rw [hyl, ← hyf]; exact take_put _ cur (by rw [hyf]; exact hcs)
    · show _ = ys.length * 2
      rw [Array.length_toList, hyf, hyl]
    · intro j p hj
      show (((flatK Pf.enc 2 ys.toArray).toList.drop (j * 2)).take 2) = p.enc; have hj1 := (List.getElem?_eq_some_iff.1 hj).1; apply List.ext_getElem?; intro i; rw [List.getElem?_take]; by_cases hi : i < 2
      · rw [if_pos hi, List.getElem?_drop, Array.getElem?_toList, flat_at ys j i p hj hi]
      · rw [if_neg hi, List.getElem?_eq_none (by show 2 ≤ i; omega)]
end Go.Proofs.Ytcagkdgpoijkoaa.SortP
end
section
namespace Go.Proofs.Ytcagkdgpoijkoaa.Pfx
open Go.RowKit Go.Proofs.Ytcagkdgpoijkoaa.Mq
set_option linter.unusedVariables false
set_option linter.unusedSimpArgs false
attribute [local go_sem] max2_int min2_int max_two min_two
def maskB (b : Int) : Int := if b ≤ 0 then 0 else 4294967295 * 2 ^ (32 - min b 32).toNat % 4294967296
theorem mask_calls {w : World} {b : Int} : Calls Try.prog 73 #[.int .i64 b] w fun e W => e = .returned (.int .u32 (maskB b)) ∧ w = W := by
  go_enter Try.func73, Try.ntmps73; by_cases h : b ≤ 0
  · have hm : Hid (maskB b = 0) := if_pos h
    go_wp2; go_ret; exact ⟨by rw [hm.out]; rfl, rfl⟩
  · have hm : Hid (maskB b = 4294967295 * 2 ^ (32 - min b 32).toNat % 4294967296) := if_neg h
    (have hd : (32 - min b 32).toNat < 4294967296 := by omega); by_cases h2 : b ≤ 32
    all_goals
      go_wp2; go_ret; exact ⟨by rw [hm.out]; rfl, rfl⟩
def mayB (p : Pf) : Bool := decide (0 ≤ p.bits) && decide (p.bits ≤ 32) && (bits .andNot .u32 p.addr (maskB p.bits) == 0)
set_option maxHeartbeats 1000000 in
theorem may_calls {w : World} (a b : Int) : Calls Try.prog 72 #[.agg #[.int .u32 a, .int .i64 b]] w fun e W => e = .returned (.bool (mayB ⟨a, b⟩)) ∧ Mem w W [] [] := by
  have H := (MemM.start w).box 35 [.int .u32 a, .int .i64 b]; go_enter Try.func72, Try.ntmps72; go_wp2_with fail; obtain ⟨c0, -⟩ := H.boxcell (.head _) 0 _ rfl; obtain ⟨c1, -⟩ := H.boxcell (.head _) 1 _ rfl; generalize w.heap.size = g at H c0 c1 ⊢; generalize w.alloc (.cells #[.int .u32 a, .int .i64 b] 35) = W at H c0 c1 ⊢; replace c0 := cell_regrown c0; replace c1 := cell_regrown c1; have hm : Hid (mayB ⟨a, b⟩ = (decide (0 ≤ b) && decide (b ≤ 32) && (bits .andNot .u32 a (maskB b) == 0))) := rfl; by_cases h0 : 0 ≤ b
  · by_cases h1 : b ≤ 32
    · have hm : Hid (mayB ⟨a, b⟩ = (bits .andNot .u32 a (maskB b) == 0)) := by rw [Hid, hm.out]; simp [h0, h1]
      refine wp_region_quiet_below (by kernel_rfl) (by kernel_rfl) ?_; (repeat (first | go_big_quiet_skip | (go_big_quiet_want; go_big_quiet_op; first | go_big_quiet_on | (apply Exists.intro; refine ⟨fun _ => ?_, ?_⟩; (go_at_call 73; exact calls_regrown' (fun W => mask_calls)); go_big_quiet_on)))); refine wpQuiet_nil ?_; intro Wq hw'; obtain ⟨pq, hw''⟩ := hw'; have hq := mem_of_regrown hw''; clear hw''; go_wp2; go_ret; exact ⟨by rw [hm.out]; rfl, (H.call hq).drop⟩
    · have hm : Hid (mayB ⟨a, b⟩ = false) := by rw [Hid, hm.out]; simp [h1]
      (have h1 : decide (b ≤ 32) = false := by simpa using h1); refine wp_region_quiet_below (by kernel_rfl) (by kernel_rfl) ?_; (repeat (first | go_big_quiet_skip | (go_big_quiet_want; go_big_quiet_op; first | go_big_quiet_on | (apply Exists.intro; refine ⟨fun _ => ?_, ?_⟩; (fail); go_big_quiet_on)))); refine wpQuiet_nil ?_; intro Wq hw'; obtain ⟨pq, hw''⟩ := hw'; have hq := mem_of_regrown hw''; clear hw''; go_wp2; go_ret; exact ⟨by rw [hm.out]; rfl, (H.call hq).drop⟩
  · have hm : Hid (mayB ⟨a, b⟩ = false) := by rw [Hid, hm.out]; simp [h0]
    (have h0 : decide (0 ≤ b) = false := by simpa using h0); refine wp_region_quiet_below (by kernel_rfl) (by kernel_rfl) ?_; (repeat (first | go_big_quiet_skip | (go_big_quiet_want; go_big_quiet_op; first | go_big_quiet_on | (apply Exists.intro; refine ⟨fun _ => ?_, ?_⟩; (fail); go_big_quiet_on)))); refine wpQuiet_nil ?_; intro Wq hw'; obtain ⟨pq, hw''⟩ := hw'; have hq := mem_of_regrown hw''; clear hw''; go_wp2; go_ret; exact ⟨by rw [hm.out]; rfl, (H.call hq).drop⟩
def coversB (p q : Pf) : Bool := mayB p && mayB q && decide (p.bits ≤ q.bits) && (bits .and .u32 q.addr (maskB p.bits) == p.addr)
set_option maxHeartbeats 2000000 in
theorem covers_calls {w : World} (a b c d : Int) : Calls Try.prog 50 #[.agg #[.int .u32 a, .int .i64 b], .agg #[.int .u32 c, .int .i64 d]] w fun e W => e = .returned (.bool (coversB ⟨a, b⟩ ⟨c, d⟩)) ∧ Mem w W [] [] := by
  have H := ((MemM.start w).box 35 [.int .u32 a, .int .i64 b]).box 35 [.int .u32 c, .int .i64 d]; go_enter Try.func50, Try.ntmps50; go_wp2_with fail; (have e1 : (w.alloc (.cells #[.int .u32 a, .int .i64 b] 35)).heap.size = w.heap.size + 1 := by simp); rw [e1] at H; generalize w.heap.size = g at H ⊢; generalize (w.alloc (.cells #[.int .u32 a, .int .i64 b] 35)).alloc (.cells #[.int .u32 c, .int .i64 d] 35) = W at H ⊢; have c0 := cell_regrown (H.boxcell (.head _) 0 _ rfl).1; have c1 := cell_regrown (H.boxcell (.head _) 1 _ rfl).1; have c2 := cell_regrown (H.boxcell (.tail _ (.head _)) 0 _ rfl).1; have c3 := cell_regrown (H.boxcell (.tail _ (.head _)) 1 _ rfl).1; (have hm1 : Hid (∀ W, Calls Try.prog 72 #[.agg #[.int .u32 a, .int .i64 b]] W fun e W' => e = .returned (.bool (mayB ⟨a, b⟩)) ∧ Mem W W' [] []) := fun W => may_calls a b); (have hm2 : Hid (∀ W, Calls Try.prog 72 #[.agg #[.int .u32 c, .int .i64 d]] W fun e W' => e = .returned (.bool (mayB ⟨c, d⟩)) ∧ Mem W W' [] []) := fun W => may_calls c d); have hcv : Hid (coversB ⟨a, b⟩ ⟨c, d⟩ = (mayB ⟨a, b⟩ && mayB ⟨c, d⟩ && decide (b ≤ d) && (bits .and .u32 c (maskB b) == a))) := rfl; generalize mayB ⟨a, b⟩ = m1 at hm1 hcv; generalize mayB ⟨c, d⟩ = m2 at hm2 hcv; cases m1
  · have hm : Hid (coversB ⟨a, b⟩ ⟨c, d⟩ = false) := by rw [Hid, hcv.out]; rfl
    refine wp_region_quiet_below (by kernel_rfl) (by kernel_rfl) ?_; (repeat (first | go_big_quiet_skip | (go_big_quiet_want; go_big_quiet_op; first | go_big_quiet_on | (apply Exists.intro; refine ⟨fun _ => ?_, ?_⟩; (first | (go_at_call_of 72 (Value.agg #[.int .u32 a, .int .i64 b]); exact calls_regrown hm1.out)); go_big_quiet_on)))); refine wpQuiet_nil ?_; intro Wq hw'; obtain ⟨pq, hw''⟩ := hw'; have hq := mem_of_regrown hw''; clear hw''; go_wp2; go_ret; exact ⟨by rw [hm.out]; rfl, (H.call hq).drop.drop⟩
  · cases m2
    · have hm : Hid (coversB ⟨a, b⟩ ⟨c, d⟩ = false) := by rw [Hid, hcv.out]; rfl
      refine wp_region_quiet_below (by kernel_rfl) (by kernel_rfl) ?_; (repeat (first | go_big_quiet_skip | (go_big_quiet_want; go_big_quiet_op; first | go_big_quiet_on | (apply Exists.intro; refine ⟨fun _ => ?_, ?_⟩; (first | (go_at_call_of 72 (Value.agg #[.int .u32 a, .int .i64 b]); exact calls_regrown hm1.out) | (go_at_call_of 72 (Value.agg #[.int .u32 c, .int .i64 d]); exact calls_regrown hm2.out)); go_big_quiet_on)))); refine wpQuiet_nil ?_; intro Wq hw'; obtain ⟨pq, hw''⟩ := hw'; have hq := mem_of_regrown hw''; clear hw''; go_wp2; go_ret; exact ⟨by rw [hm.out]; rfl, (H.call hq).drop.drop⟩
    · by_cases hbd : b ≤ d
      · have hm : Hid (coversB ⟨a, b⟩ ⟨c, d⟩ = (bits .and .u32 c (maskB b) == a)) := by rw [Hid, hcv.out]; simp [hbd]
        refine wp_region_quiet_below (by kernel_rfl) (by kernel_rfl) ?_; (repeat (first | go_big_quiet_skip | (go_big_quiet_want; go_big_quiet_op; first | go_big_quiet_on | (apply Exists.intro; refine ⟨fun _ => ?_, ?_⟩; (first | (go_at_call_of 72 (Value.agg #[.int .u32 a, .int .i64 b]); exact calls_regrown hm1.out) | (go_at_call_of 72 (Value.agg #[.int .u32 c, .int .i64 d]); exact calls_regrown hm2.out) | (go_at_call 73; exact calls_regrown' (fun W => mask_calls))); go_big_quiet_on)))); refine wpQuiet_nil ?_; intro Wq hw'; obtain ⟨pq, hw''⟩ := hw'; have hq := mem_of_regrown hw''; clear hw''; go_wp2; go_ret; exact ⟨by rw [hm.out]; rfl, (H.call hq).drop.drop⟩
      · have hm : Hid (coversB ⟨a, b⟩ ⟨c, d⟩ = false) := by rw [Hid, hcv.out]; simp [hbd]
        (have hbd : decide (b ≤ d) = false := by simpa using hbd); refine wp_region_quiet_below (by kernel_rfl) (by kernel_rfl) ?_; (repeat (first | go_big_quiet_skip | (go_big_quiet_want; go_big_quiet_op; first | go_big_quiet_on | (apply Exists.intro; refine ⟨fun _ => ?_, ?_⟩; (first | (go_at_call_of 72 (Value.agg #[.int .u32 a, .int .i64 b]); exact calls_regrown hm1.out) | (go_at_call_of 72 (Value.agg #[.int .u32 c, .int .i64 d]); exact calls_regrown hm2.out)); go_big_quiet_on)))); refine wpQuiet_nil ?_; intro Wq hw'; obtain ⟨pq, hw''⟩ := hw'; have hq := mem_of_regrown hw''; clear hw''; go_wp2; go_ret; exact ⟨by rw [hm.out]; rfl, (H.call hq).drop.drop⟩
end Go.Proofs.Ytcagkdgpoijkoaa.Pfx
end
section
namespace Go.Proofs.Ytcagkdgpoijkoaa.Cls
open Go.RowKit Go.Proofs.Ytcagkdgpoijkoaa.Mq Go.Proofs.Ytcagkdgpoijkoaa.Pfx
set_option linter.unusedVariables false
set_option linter.unusedSimpArgs false
def forB (to_ : Pf) : List Cl → List Cl
  | [] => []
  | c :: r => if !c.any && !coversB c.pre to_ then forB to_ r else { c with any := true, pre := ⟨0, 0⟩ } :: (if c.wth = 0 ∧ c.out = 0 then [] else forB to_ r)
theorem info_cl : (Try.prog.info? 116).map (·.zero) = some (some (.agg #[.bool false, .int .u32 0, .int .i64 0, .int .u8 0, .int .u8 0, .bool false, .int .u8 0, .int .u8 0, .int .i64 0, .int .i64 0])) := by kernel_rfl
theorem info_cl3 : (Try.prog.info? 116).map (fun i => (i.zero, i.size, i.bytes)) = some (some (.agg #[.bool false, .int .u32 0, .int .i64 0, .int .u8 0, .int .u8 0, .bool false, .int .u8 0, .int .u8 0, .int .i64 0, .int .i64 0]), 10, 48) := by kernel_rfl
set_option maxHeartbeats 4000000 in
set_option maxRecDepth 100000 in
theorem for_calls {w : World} {A0 : Option Addr} {cs : List Cl} {c0 : Nat} (h : Row clR w (· < w.heap.size) A0 cs) (hcl : cs.length ≤ 2000000000000) (a b : Int) :
    Calls Try.prog 51 #[.slice A0 cs.length c0, .agg #[.int .u32 a, .int .i64 b]] w fun e W => ∃ v, e = .returned v ∧ Mem w W [] [own clR 116 v (forB ⟨a, b⟩ cs)] := by
  have H := (MemM.start w).box 35 [.int .u32 a, .int .i64 b]; have hl := h.len; unfold maxLen at hl; go_enter Try.func51, Try.ntmps51; go_wp2_with fail; generalize w.heap.size = g at H ⊢; generalize w.alloc (.cells #[.int .u32 a, .int .i64 b] 35) = W at H ⊢; have H := (H.nilItem clR 116); go_loopw [5, 10] (fun v5 v10 W => ∃ (k : Nat) (acc : List Cl), k ≤ cs.length ∧ v10 = .int .i64 k ∧ Hid (forB ⟨a, b⟩ cs = acc ++ forB ⟨a, b⟩ (cs.drop k) ∧ acc.length ≤ k) ∧ Mem w W [] [own clR 116 v5 acc, box g 35 [.int .u32 a, .int .i64 b]]) (fun _ v10 _ => cs.length - (intOf v10).toNat)
  case atStart => exact ⟨0, [], Nat.zero_le _, rfl, ⟨rfl, Nat.le_refl _⟩, H⟩
  case round =>
    clear H; obtain ⟨k, acc, hk, rfl, hacc, H⟩ := hrel; by_cases hlt : k < cs.length
    · obtain ⟨c, hc⟩ : ∃ c, cs[k]? = some c := ⟨_, List.getElem?_eq_getElem hlt⟩
      (have hd : cs.drop k = c :: cs.drop (k + 1) := by rw [List.drop_eq_getElem_cons hlt]; congr 1; rw [List.getElem?_eq_getElem hlt] at hc; injection hc); rw [hd] at hacc; clear hd; obtain ⟨ad, rfl, hx⟩ := (H.arg h).flat1 hc; obtain ⟨any, ⟨pa, pb⟩, wth, out, drop, set, clr, more, pref⟩ := c; have hx := hide hx; clear hc; cases any
      · have hcov : Hid (∀ W, Calls Try.prog 50 #[.agg #[.int .u32 pa, .int .i64 pb], .agg #[.int .u32 a, .int .i64 b]] W fun e W' => e = .returned (.bool (coversB ⟨pa, pb⟩ ⟨a, b⟩)) ∧ Mem W W' [] []) := fun W => covers_calls pa pb a b
        have hw : Hid (forB ⟨a, b⟩ (⟨false, ⟨pa, pb⟩, wth, out, drop, set, clr, more, pref⟩ :: cs.drop (k + 1)) = if (!false && !coversB ⟨pa, pb⟩ ⟨a, b⟩) = true then forB ⟨a, b⟩ (cs.drop (k + 1)) else ⟨true, ⟨0, 0⟩, wth, out, drop, set, clr, more, pref⟩ :: (if wth = 0 ∧ out = 0 then [] else forB ⟨a, b⟩ (cs.drop (k + 1)))) := rfl; generalize coversB ⟨pa, pb⟩ ⟨a, b⟩ = m at hcov hw; rw [hw.out] at hacc; clear hw; cases m
        · have hacc := hide (show forB ⟨a, b⟩ cs = acc ++ forB ⟨a, b⟩ (cs.drop (k + 1)) ∧ acc.length ≤ k from hacc.out)
          go_wp2_with (first
            | ((with_reducible refine gate_dst (N := 13) rfl ?_); refine wp_ldcells [.bool false, .int .u32 pa, .int .i64 pb, .int .u8 wth, .int .u8 out, .bool drop, .int .u8 set, .int .u8 clr, .int .i64 more, .int .i64 pref] hx.out rfl _ _ rfl rfl _ Try.underlying116 rfl (by kernel_rfl) ?_)
            | ((with_reducible refine gate_dst (N := 7) rfl ?_); refine wp_alloc H rfl _ rfl _ info_cl _ rfl ?_; clear H hx; intro gc W1 H)
            | (refine wp_stbox H rfl _ _ _ rfl 0 rfl _ rfl _ rfl (by kernel_rfl) rfl (Nat.le_of_ble_eq_true rfl) [.bool false, .int .u32 pa, .int .i64 pb, .int .u8 wth, .int .u8 out, .bool drop, .int .u8 set, .int .u8 clr, .int .i64 more, .int .i64 pref] rfl ?_; clear H ; intro W2 H; have x0 := (H.boxcell (.head _) 0 _ rfl).1; have x1 := (H.boxcell (.head _) 1 _ rfl).1; have x2 := (H.boxcell (.head _) 2 _ rfl).1; have x3 := (H.boxcell (.head _) 3 _ rfl).1; have x4 := (H.boxcell (.head _) 4 _ rfl).1; have x5 := (H.boxcell (.head _) 5 _ rfl).1; have x6 := (H.boxcell (.head _) 6 _ rfl).1; have x7 := (H.boxcell (.head _) 7 _ rfl).1; have x8 := (H.boxcell (.head _) 8 _ rfl).1; have x9 := (H.boxcell (.head _) 9 _ rfl).1; have y0 := (H.boxcell (.tail _ (.tail _ (.head _))) 0 _ rfl).1; have y1 := (H.boxcell (.tail _ (.tail _ (.head _))) 1 _ rfl).1)
            | (go_at_call 50; refine (hcov.out _).mono ?_; rintro e W5 ⟨rfl, hm⟩; replace H := H.call hm; clear hm x0 x1 x2 x3 x4 x5 x6 x7 x8 x9 y0 y1; have x0 := (H.boxcell (.head _) 0 _ rfl).1; have x1 := (H.boxcell (.head _) 1 _ rfl).1; have x2 := (H.boxcell (.head _) 2 _ rfl).1; have x3 := (H.boxcell (.head _) 3 _ rfl).1; have x4 := (H.boxcell (.head _) 4 _ rfl).1; have x5 := (H.boxcell (.head _) 5 _ rfl).1; have x6 := (H.boxcell (.head _) 6 _ rfl).1; have x7 := (H.boxcell (.head _) 7 _ rfl).1; have x8 := (H.boxcell (.head _) 8 _ rfl).1; have x9 := (H.boxcell (.head _) 9 _ rfl).1; have y0 := (H.boxcell (.tail _ (.tail _ (.head _))) 0 _ rfl).1; have y1 := (H.boxcell (.tail _ (.tail _ (.head _))) 1 _ rfl).1))
          go_roundw
          case rel => exact ⟨k + 1, acc, by omega, by go_num, ⟨hacc.out.1, by have := hacc.out.2; omega⟩, H.drop⟩
          case measure => simp [intOf]; omega
        · skip
          have hacc := hide (show forB ⟨a, b⟩ cs = acc ++ ⟨true, ⟨0, 0⟩, wth, out, drop, set, clr, more, pref⟩ :: (if wth = 0 ∧ out = 0 then [] else forB ⟨a, b⟩ (cs.drop (k + 1))) ∧ acc.length ≤ k from hacc.out); by_cases hw0 : wth = 0
          · subst hw0
            by_cases ho0 : out = 0
            · subst ho0
              have hfin : Hid (forB ⟨a, b⟩ cs = acc ++ [⟨true, ⟨0, 0⟩, 0, 0, drop, set, clr, more, pref⟩]) := by rw [Hid, hacc.out.1]; simp
              go_wp2_with (first
                | ((with_reducible refine gate_dst (N := 13) rfl ?_); refine wp_ldcells [.bool false, .int .u32 pa, .int .i64 pb, .int .u8 0, .int .u8 0, .bool drop, .int .u8 set, .int .u8 clr, .int .i64 more, .int .i64 pref] hx.out rfl _ _ rfl rfl _ Try.underlying116 rfl (by kernel_rfl) ?_)
                | ((with_reducible refine gate_dst (N := 7) rfl ?_); refine wp_alloc H rfl _ rfl _ info_cl _ rfl ?_; clear H hx; intro gc W1 H)
                | (refine wp_stbox H rfl _ _ _ rfl 0 rfl _ rfl _ rfl (by kernel_rfl) rfl (Nat.le_of_ble_eq_true rfl) [.bool false, .int .u32 pa, .int .i64 pb, .int .u8 0, .int .u8 0, .bool drop, .int .u8 set, .int .u8 clr, .int .i64 more, .int .i64 pref] rfl ?_; clear H ; intro W2 H; have x0 := (H.boxcell (.head _) 0 _ rfl).1; have x1 := (H.boxcell (.head _) 1 _ rfl).1; have x2 := (H.boxcell (.head _) 2 _ rfl).1; have x3 := (H.boxcell (.head _) 3 _ rfl).1; have x4 := (H.boxcell (.head _) 4 _ rfl).1; have x5 := (H.boxcell (.head _) 5 _ rfl).1; have x6 := (H.boxcell (.head _) 6 _ rfl).1; have x7 := (H.boxcell (.head _) 7 _ rfl).1; have x8 := (H.boxcell (.head _) 8 _ rfl).1; have x9 := (H.boxcell (.head _) 9 _ rfl).1; have y0 := (H.boxcell (.tail _ (.tail _ (.head _))) 0 _ rfl).1; have y1 := (H.boxcell (.tail _ (.tail _ (.head _))) 1 _ rfl).1)
                | (go_at_call 50; refine (hcov.out _).mono ?_; rintro e W5 ⟨rfl, hm⟩; replace H := H.call hm; clear hm x0 x1 x2 x3 x4 x5 x6 x7 x8 x9 y0 y1; have x0 := (H.boxcell (.head _) 0 _ rfl).1; have x1 := (H.boxcell (.head _) 1 _ rfl).1; have x2 := (H.boxcell (.head _) 2 _ rfl).1; have x3 := (H.boxcell (.head _) 3 _ rfl).1; have x4 := (H.boxcell (.head _) 4 _ rfl).1; have x5 := (H.boxcell (.head _) 5 _ rfl).1; have x6 := (H.boxcell (.head _) 6 _ rfl).1; have x7 := (H.boxcell (.head _) 7 _ rfl).1; have x8 := (H.boxcell (.head _) 8 _ rfl).1; have x9 := (H.boxcell (.head _) 9 _ rfl).1; have y0 := (H.boxcell (.tail _ (.tail _ (.head _))) 0 _ rfl).1; have y1 := (H.boxcell (.tail _ (.tail _ (.head _))) 1 _ rfl).1)
                | (refine wp_stbox H rfl _ _ _ rfl 0 rfl _ rfl _ rfl (by kernel_rfl) rfl (Nat.le_of_ble_eq_true rfl) [.bool true, .int .u32 pa, .int .i64 pb, .int .u8 0, .int .u8 0, .bool drop, .int .u8 set, .int .u8 clr, .int .i64 more, .int .i64 pref] rfl ?_; clear H x0 x1 x2 x3 x4 x5 x6 x7 x8 x9 y0 y1; intro W2 H; have x0 := (H.boxcell (.head _) 0 _ rfl).1; have x1 := (H.boxcell (.head _) 1 _ rfl).1; have x2 := (H.boxcell (.head _) 2 _ rfl).1; have x3 := (H.boxcell (.head _) 3 _ rfl).1; have x4 := (H.boxcell (.head _) 4 _ rfl).1; have x5 := (H.boxcell (.head _) 5 _ rfl).1; have x6 := (H.boxcell (.head _) 6 _ rfl).1; have x7 := (H.boxcell (.head _) 7 _ rfl).1; have x8 := (H.boxcell (.head _) 8 _ rfl).1; have x9 := (H.boxcell (.head _) 9 _ rfl).1; have y0 := (H.boxcell (.tail _ (.tail _ (.head _))) 0 _ rfl).1; have y1 := (H.boxcell (.tail _ (.tail _ (.head _))) 1 _ rfl).1)
                | (refine wp_stbox H rfl _ _ _ rfl 1 rfl _ rfl _ rfl (by kernel_rfl) rfl (Nat.le_of_ble_eq_true rfl) [.bool true, .int .u32 0, .int .i64 0, .int .u8 0, .int .u8 0, .bool drop, .int .u8 set, .int .u8 clr, .int .i64 more, .int .i64 pref] rfl ?_; clear H x0 x1 x2 x3 x4 x5 x6 x7 x8 x9 y0 y1; intro W2 H; have x0 := (H.boxcell (.head _) 0 _ rfl).1; have x1 := (H.boxcell (.head _) 1 _ rfl).1; have x2 := (H.boxcell (.head _) 2 _ rfl).1; have x3 := (H.boxcell (.head _) 3 _ rfl).1; have x4 := (H.boxcell (.head _) 4 _ rfl).1; have x5 := (H.boxcell (.head _) 5 _ rfl).1; have x6 := (H.boxcell (.head _) 6 _ rfl).1; have x7 := (H.boxcell (.head _) 7 _ rfl).1; have x8 := (H.boxcell (.head _) 8 _ rfl).1; have x9 := (H.boxcell (.head _) 9 _ rfl).1; have y0 := (H.boxcell (.tail _ (.tail _ (.head _))) 0 _ rfl).1; have y1 := (H.boxcell (.tail _ (.tail _ (.head _))) 1 _ rfl).1)
                | ((with_reducible refine gate_dst (N := 30) rfl ?_); refine wp_append H.pull1 rfl _ _ _ _ 48 rfl Try.underlying49 info_cl3 rfl (by decide) (by decide) ⟨true, ⟨0, 0⟩, 0, 0, drop, set, clr, more, pref⟩ [.bool true, .int .u32 0, .int .i64 0, .int .u8 0, .int .u8 0, .bool drop, .int .u8 set, .int .u8 clr, .int .i64 more, .int .i64 pref] rfl rfl (fun _ _ => rfl) (by have := hacc.out.2; omega) ?_; clear H x0 x1 x2 x3 x4 x5 x6 x7 x8 x9 y0 y1; intro v1 W1 H; have x0 := (H.boxcell (.tail _ (.head _)) 0 _ rfl).1; have x1 := (H.boxcell (.tail _ (.head _)) 1 _ rfl).1; have x2 := (H.boxcell (.tail _ (.head _)) 2 _ rfl).1; have x3 := (H.boxcell (.tail _ (.head _)) 3 _ rfl).1; have x4 := (H.boxcell (.tail _ (.head _)) 4 _ rfl).1; have x5 := (H.boxcell (.tail _ (.head _)) 5 _ rfl).1; have x6 := (H.boxcell (.tail _ (.head _)) 6 _ rfl).1; have x7 := (H.boxcell (.tail _ (.head _)) 7 _ rfl).1; have x8 := (H.boxcell (.tail _ (.head _)) 8 _ rfl).1; have x9 := (H.boxcell (.tail _ (.head _)) 9 _ rfl).1))
              go_ret; exact ⟨_, rfl, by rw [hfin.out]; exact H.pull1.drop.pull1.drop⟩
            · have hnx : Hid (forB ⟨a, b⟩ cs = (acc ++ [⟨true, ⟨0, 0⟩, 0, out, drop, set, clr, more, pref⟩]) ++ forB ⟨a, b⟩ (cs.drop (k + 1))) := by rw [Hid, hacc.out.1]; simp [ho0]
              have ho1 : (out == 0) = false := by simpa using ho0
              go_wp2_with (first
                | ((with_reducible refine gate_dst (N := 13) rfl ?_); refine wp_ldcells [.bool false, .int .u32 pa, .int .i64 pb, .int .u8 0, .int .u8 out, .bool drop, .int .u8 set, .int .u8 clr, .int .i64 more, .int .i64 pref] hx.out rfl _ _ rfl rfl _ Try.underlying116 rfl (by kernel_rfl) ?_)
                | ((with_reducible refine gate_dst (N := 7) rfl ?_); refine wp_alloc H rfl _ rfl _ info_cl _ rfl ?_; clear H hx; intro gc W1 H)
                | (refine wp_stbox H rfl _ _ _ rfl 0 rfl _ rfl _ rfl (by kernel_rfl) rfl (Nat.le_of_ble_eq_true rfl) [.bool false, .int .u32 pa, .int .i64 pb, .int .u8 0, .int .u8 out, .bool drop, .int .u8 set, .int .u8 clr, .int .i64 more, .int .i64 pref] rfl ?_; clear H ; intro W2 H; have x0 := (H.boxcell (.head _) 0 _ rfl).1; have x1 := (H.boxcell (.head _) 1 _ rfl).1; have x2 := (H.boxcell (.head _) 2 _ rfl).1; have x3 := (H.boxcell (.head _) 3 _ rfl).1; have x4 := (H.boxcell (.head _) 4 _ rfl).1; have x5 := (H.boxcell (.head _) 5 _ rfl).1; have x6 := (H.boxcell (.head _) 6 _ rfl).1; have x7 := (H.boxcell (.head _) 7 _ rfl).1; have x8 := (H.boxcell (.head _) 8 _ rfl).1; have x9 := (H.boxcell (.head _) 9 _ rfl).1; have y0 := (H.boxcell (.tail _ (.tail _ (.head _))) 0 _ rfl).1; have y1 := (H.boxcell (.tail _ (.tail _ (.head _))) 1 _ rfl).1)
                | (go_at_call 50; refine (hcov.out _).mono ?_; rintro e W5 ⟨rfl, hm⟩; replace H := H.call hm; clear hm x0 x1 x2 x3 x4 x5 x6 x7 x8 x9 y0 y1; have x0 := (H.boxcell (.head _) 0 _ rfl).1; have x1 := (H.boxcell (.head _) 1 _ rfl).1; have x2 := (H.boxcell (.head _) 2 _ rfl).1; have x3 := (H.boxcell (.head _) 3 _ rfl).1; have x4 := (H.boxcell (.head _) 4 _ rfl).1; have x5 := (H.boxcell (.head _) 5 _ rfl).1; have x6 := (H.boxcell (.head _) 6 _ rfl).1; have x7 := (H.boxcell (.head _) 7 _ rfl).1; have x8 := (H.boxcell (.head _) 8 _ rfl).1; have x9 := (H.boxcell (.head _) 9 _ rfl).1; have y0 := (H.boxcell (.tail _ (.tail _ (.head _))) 0 _ rfl).1; have y1 := (H.boxcell (.tail _ (.tail _ (.head _))) 1 _ rfl).1)
                | (refine wp_stbox H rfl _ _ _ rfl 0 rfl _ rfl _ rfl (by kernel_rfl) rfl (Nat.le_of_ble_eq_true rfl) [.bool true, .int .u32 pa, .int .i64 pb, .int .u8 0, .int .u8 out, .bool drop, .int .u8 set, .int .u8 clr, .int .i64 more, .int .i64 pref] rfl ?_; clear H x0 x1 x2 x3 x4 x5 x6 x7 x8 x9 y0 y1; intro W2 H; have x0 := (H.boxcell (.head _) 0 _ rfl).1; have x1 := (H.boxcell (.head _) 1 _ rfl).1; have x2 := (H.boxcell (.head _) 2 _ rfl).1; have x3 := (H.boxcell (.head _) 3 _ rfl).1; have x4 := (H.boxcell (.head _) 4 _ rfl).1; have x5 := (H.boxcell (.head _) 5 _ rfl).1; have x6 := (H.boxcell (.head _) 6 _ rfl).1; have x7 := (H.boxcell (.head _) 7 _ rfl).1; have x8 := (H.boxcell (.head _) 8 _ rfl).1; have x9 := (H.boxcell (.head _) 9 _ rfl).1; have y0 := (H.boxcell (.tail _ (.tail _ (.head _))) 0 _ rfl).1; have y1 := (H.boxcell (.tail _ (.tail _ (.head _))) 1 _ rfl).1)
                | (refine wp_stbox H rfl _ _ _ rfl 1 rfl _ rfl _ rfl (by kernel_rfl) rfl (Nat.le_of_ble_eq_true rfl) [.bool true, .int .u32 0, .int .i64 0, .int .u8 0, .int .u8 out, .bool drop, .int .u8 set, .int .u8 clr, .int .i64 more, .int .i64 pref] rfl ?_; clear H x0 x1 x2 x3 x4 x5 x6 x7 x8 x9 y0 y1; intro W2 H; have x0 := (H.boxcell (.head _) 0 _ rfl).1; have x1 := (H.boxcell (.head _) 1 _ rfl).1; have x2 := (H.boxcell (.head _) 2 _ rfl).1; have x3 := (H.boxcell (.head _) 3 _ rfl).1; have x4 := (H.boxcell (.head _) 4 _ rfl).1; have x5 := (H.boxcell (.head _) 5 _ rfl).1; have x6 := (H.boxcell (.head _) 6 _ rfl).1; have x7 := (H.boxcell (.head _) 7 _ rfl).1; have x8 := (H.boxcell (.head _) 8 _ rfl).1; have x9 := (H.boxcell (.head _) 9 _ rfl).1; have y0 := (H.boxcell (.tail _ (.tail _ (.head _))) 0 _ rfl).1; have y1 := (H.boxcell (.tail _ (.tail _ (.head _))) 1 _ rfl).1)
                | ((with_reducible refine gate_dst (N := 30) rfl ?_); refine wp_append H.pull1 rfl _ _ _ _ 48 rfl Try.underlying49 info_cl3 rfl (by decide) (by decide) ⟨true, ⟨0, 0⟩, 0, out, drop, set, clr, more, pref⟩ [.bool true, .int .u32 0, .int .i64 0, .int .u8 0, .int .u8 out, .bool drop, .int .u8 set, .int .u8 clr, .int .i64 more, .int .i64 pref] rfl rfl (fun _ _ => rfl) (by have := hacc.out.2; omega) ?_; clear H x0 x1 x2 x3 x4 x5 x6 x7 x8 x9 y0 y1; intro v1 W1 H; have x0 := (H.boxcell (.tail _ (.head _)) 0 _ rfl).1; have x1 := (H.boxcell (.tail _ (.head _)) 1 _ rfl).1; have x2 := (H.boxcell (.tail _ (.head _)) 2 _ rfl).1; have x3 := (H.boxcell (.tail _ (.head _)) 3 _ rfl).1; have x4 := (H.boxcell (.tail _ (.head _)) 4 _ rfl).1; have x5 := (H.boxcell (.tail _ (.head _)) 5 _ rfl).1; have x6 := (H.boxcell (.tail _ (.head _)) 6 _ rfl).1; have x7 := (H.boxcell (.tail _ (.head _)) 7 _ rfl).1; have x8 := (H.boxcell (.tail _ (.head _)) 8 _ rfl).1; have x9 := (H.boxcell (.tail _ (.head _)) 9 _ rfl).1))
              go_roundw
              case rel => exact ⟨k + 1, _, by omega, by go_num, ⟨hnx.out, by have := hacc.out.2; simp; omega⟩, H.pull1.drop⟩
              case measure => simp [intOf]; omega
          · have hnx : Hid (forB ⟨a, b⟩ cs = (acc ++ [⟨true, ⟨0, 0⟩, wth, out, drop, set, clr, more, pref⟩]) ++ forB ⟨a, b⟩ (cs.drop (k + 1))) := by rw [Hid, hacc.out.1]; simp [hw0]
            have hw1 : (wth == 0) = false := by simpa using hw0
            go_wp2_with (first
              | ((with_reducible refine gate_dst (N := 13) rfl ?_); refine wp_ldcells [.bool false, .int .u32 pa, .int .i64 pb, .int .u8 wth, .int .u8 out, .bool drop, .int .u8 set, .int .u8 clr, .int .i64 more, .int .i64 pref] hx.out rfl _ _ rfl rfl _ Try.underlying116 rfl (by kernel_rfl) ?_)
              | ((with_reducible refine gate_dst (N := 7) rfl ?_); refine wp_alloc H rfl _ rfl _ info_cl _ rfl ?_; clear H hx; intro gc W1 H)
              | (refine wp_stbox H rfl _ _ _ rfl 0 rfl _ rfl _ rfl (by kernel_rfl) rfl (Nat.le_of_ble_eq_true rfl) [.bool false, .int .u32 pa, .int .i64 pb, .int .u8 wth, .int .u8 out, .bool drop, .int .u8 set, .int .u8 clr, .int .i64 more, .int .i64 pref] rfl ?_; clear H ; intro W2 H; have x0 := (H.boxcell (.head _) 0 _ rfl).1; have x1 := (H.boxcell (.head _) 1 _ rfl).1; have x2 := (H.boxcell (.head _) 2 _ rfl).1; have x3 := (H.boxcell (.head _) 3 _ rfl).1; have x4 := (H.boxcell (.head _) 4 _ rfl).1; have x5 := (H.boxcell (.head _) 5 _ rfl).1; have x6 := (H.boxcell (.head _) 6 _ rfl).1; have x7 := (H.boxcell (.head _) 7 _ rfl).1; have x8 := (H.boxcell (.head _) 8 _ rfl).1; have x9 := (H.boxcell (.head _) 9 _ rfl).1; have y0 := (H.boxcell (.tail _ (.tail _ (.head _))) 0 _ rfl).1; have y1 := (H.boxcell (.tail _ (.tail _ (.head _))) 1 _ rfl).1)
              | (go_at_call 50; refine (hcov.out _).mono ?_; rintro e W5 ⟨rfl, hm⟩; replace H := H.call hm; clear hm x0 x1 x2 x3 x4 x5 x6 x7 x8 x9 y0 y1; have x0 := (H.boxcell (.head _) 0 _ rfl).1; have x1 := (H.boxcell (.head _) 1 _ rfl).1; have x2 := (H.boxcell (.head _) 2 _ rfl).1; have x3 := (H.boxcell (.head _) 3 _ rfl).1; have x4 := (H.boxcell (.head _) 4 _ rfl).1; have x5 := (H.boxcell (.head _) 5 _ rfl).1; have x6 := (H.boxcell (.head _) 6 _ rfl).1; have x7 := (H.boxcell (.head _) 7 _ rfl).1; have x8 := (H.boxcell (.head _) 8 _ rfl).1; have x9 := (H.boxcell (.head _) 9 _ rfl).1; have y0 := (H.boxcell (.tail _ (.tail _ (.head _))) 0 _ rfl).1; have y1 := (H.boxcell (.tail _ (.tail _ (.head _))) 1 _ rfl).1)
              | (refine wp_stbox H rfl _ _ _ rfl 0 rfl _ rfl _ rfl (by kernel_rfl) rfl (Nat.le_of_ble_eq_true rfl) [.bool true, .int .u32 pa, .int .i64 pb, .int .u8 wth, .int .u8 out, .bool drop, .int .u8 set, .int .u8 clr, .int .i64 more, .int .i64 pref] rfl ?_; clear H x0 x1 x2 x3 x4 x5 x6 x7 x8 x9 y0 y1; intro W2 H; have x0 := (H.boxcell (.head _) 0 _ rfl).1; have x1 := (H.boxcell (.head _) 1 _ rfl).1; have x2 := (H.boxcell (.head _) 2 _ rfl).1; have x3 := (H.boxcell (.head _) 3 _ rfl).1; have x4 := (H.boxcell (.head _) 4 _ rfl).1; have x5 := (H.boxcell (.head _) 5 _ rfl).1; have x6 := (H.boxcell (.head _) 6 _ rfl).1; have x7 := (H.boxcell (.head _) 7 _ rfl).1; have x8 := (H.boxcell (.head _) 8 _ rfl).1; have x9 := (H.boxcell (.head _) 9 _ rfl).1; have y0 := (H.boxcell (.tail _ (.tail _ (.head _))) 0 _ rfl).1; have y1 := (H.boxcell (.tail _ (.tail _ (.head _))) 1 _ rfl).1)
              | (refine wp_stbox H rfl _ _ _ rfl 1 rfl _ rfl _ rfl (by kernel_rfl) rfl (Nat.le_of_ble_eq_true rfl) [.bool true, .int .u32 0, .int .i64 0, .int .u8 wth, .int .u8 out, .bool drop, .int .u8 set, .int .u8 clr, .int .i64 more, .int .i64 pref] rfl ?_; clear H x0 x1 x2 x3 x4 x5 x6 x7 x8 x9 y0 y1; intro W2 H; have x0 := (H.boxcell (.head _) 0 _ rfl).1; have x1 := (H.boxcell (.head _) 1 _ rfl).1; have x2 := (H.boxcell (.head _) 2 _ rfl).1; have x3 := (H.boxcell (.head _) 3 _ rfl).1; have x4 := (H.boxcell (.head _) 4 _ rfl).1; have x5 := (H.boxcell (.head _) 5 _ rfl).1; have x6 := (H.boxcell (.head _) 6 _ rfl).1; have x7 := (H.boxcell (.head _) 7 _ rfl).1; have x8 := (H.boxcell (.head _) 8 _ rfl).1; have x9 := (H.boxcell (.head _) 9 _ rfl).1; have y0 := (H.boxcell (.tail _ (.tail _ (.head _))) 0 _ rfl).1; have y1 := (H.boxcell (.tail _ (.tail _ (.head _))) 1 _ rfl).1)
              | ((with_reducible refine gate_dst (N := 30) rfl ?_); refine wp_append H.pull1 rfl _ _ _ _ 48 rfl Try.underlying49 info_cl3 rfl (by decide) (by decide) ⟨true, ⟨0, 0⟩, wth, out, drop, set, clr, more, pref⟩ [.bool true, .int .u32 0, .int .i64 0, .int .u8 wth, .int .u8 out, .bool drop, .int .u8 set, .int .u8 clr, .int .i64 more, .int .i64 pref] rfl rfl (fun _ _ => rfl) (by have := hacc.out.2; omega) ?_; clear H x0 x1 x2 x3 x4 x5 x6 x7 x8 x9 y0 y1; intro v1 W1 H; have x0 := (H.boxcell (.tail _ (.head _)) 0 _ rfl).1; have x1 := (H.boxcell (.tail _ (.head _)) 1 _ rfl).1; have x2 := (H.boxcell (.tail _ (.head _)) 2 _ rfl).1; have x3 := (H.boxcell (.tail _ (.head _)) 3 _ rfl).1; have x4 := (H.boxcell (.tail _ (.head _)) 4 _ rfl).1; have x5 := (H.boxcell (.tail _ (.head _)) 5 _ rfl).1; have x6 := (H.boxcell (.tail _ (.head _)) 6 _ rfl).1; have x7 := (H.boxcell (.tail _ (.head _)) 7 _ rfl).1; have x8 := (H.boxcell (.tail _ (.head _)) 8 _ rfl).1; have x9 := (H.boxcell (.tail _ (.head _)) 9 _ rfl).1))
            go_roundw
            case rel => exact ⟨k + 1, _, by omega, by go_num, ⟨hnx.out, by have := hacc.out.2; simp; omega⟩, H.pull1.drop⟩
            case measure => simp [intOf]; omega
      · skip
        have hacc := hide (show forB ⟨a, b⟩ cs = acc ++ ⟨true, ⟨0, 0⟩, wth, out, drop, set, clr, more, pref⟩ :: (if wth = 0 ∧ out = 0 then [] else forB ⟨a, b⟩ (cs.drop (k + 1))) ∧ acc.length ≤ k from hacc.out); by_cases hw0 : wth = 0
        · subst hw0
          by_cases ho0 : out = 0
          · subst ho0
            have hfin : Hid (forB ⟨a, b⟩ cs = acc ++ [⟨true, ⟨0, 0⟩, 0, 0, drop, set, clr, more, pref⟩]) := by rw [Hid, hacc.out.1]; simp
            go_wp2_with (first
              | ((with_reducible refine gate_dst (N := 13) rfl ?_); refine wp_ldcells [.bool true, .int .u32 pa, .int .i64 pb, .int .u8 0, .int .u8 0, .bool drop, .int .u8 set, .int .u8 clr, .int .i64 more, .int .i64 pref] hx.out rfl _ _ rfl rfl _ Try.underlying116 rfl (by kernel_rfl) ?_)
              | ((with_reducible refine gate_dst (N := 7) rfl ?_); refine wp_alloc H rfl _ rfl _ info_cl _ rfl ?_; clear H hx; intro gc W1 H)
              | (refine wp_stbox H rfl _ _ _ rfl 0 rfl _ rfl _ rfl (by kernel_rfl) rfl (Nat.le_of_ble_eq_true rfl) [.bool true, .int .u32 pa, .int .i64 pb, .int .u8 0, .int .u8 0, .bool drop, .int .u8 set, .int .u8 clr, .int .i64 more, .int .i64 pref] rfl ?_; clear H ; intro W2 H; have x0 := (H.boxcell (.head _) 0 _ rfl).1; have x1 := (H.boxcell (.head _) 1 _ rfl).1; have x2 := (H.boxcell (.head _) 2 _ rfl).1; have x3 := (H.boxcell (.head _) 3 _ rfl).1; have x4 := (H.boxcell (.head _) 4 _ rfl).1; have x5 := (H.boxcell (.head _) 5 _ rfl).1; have x6 := (H.boxcell (.head _) 6 _ rfl).1; have x7 := (H.boxcell (.head _) 7 _ rfl).1; have x8 := (H.boxcell (.head _) 8 _ rfl).1; have x9 := (H.boxcell (.head _) 9 _ rfl).1; have y0 := (H.boxcell (.tail _ (.tail _ (.head _))) 0 _ rfl).1; have y1 := (H.boxcell (.tail _ (.tail _ (.head _))) 1 _ rfl).1)
              | (refine wp_stbox H rfl _ _ _ rfl 1 rfl _ rfl _ rfl (by kernel_rfl) rfl (Nat.le_of_ble_eq_true rfl) [.bool true, .int .u32 0, .int .i64 0, .int .u8 0, .int .u8 0, .bool drop, .int .u8 set, .int .u8 clr, .int .i64 more, .int .i64 pref] rfl ?_; clear H x0 x1 x2 x3 x4 x5 x6 x7 x8 x9 y0 y1; intro W2 H; have x0 := (H.boxcell (.head _) 0 _ rfl).1; have x1 := (H.boxcell (.head _) 1 _ rfl).1; have x2 := (H.boxcell (.head _) 2 _ rfl).1; have x3 := (H.boxcell (.head _) 3 _ rfl).1; have x4 := (H.boxcell (.head _) 4 _ rfl).1; have x5 := (H.boxcell (.head _) 5 _ rfl).1; have x6 := (H.boxcell (.head _) 6 _ rfl).1; have x7 := (H.boxcell (.head _) 7 _ rfl).1; have x8 := (H.boxcell (.head _) 8 _ rfl).1; have x9 := (H.boxcell (.head _) 9 _ rfl).1; have y0 := (H.boxcell (.tail _ (.tail _ (.head _))) 0 _ rfl).1; have y1 := (H.boxcell (.tail _ (.tail _ (.head _))) 1 _ rfl).1)
              | ((with_reducible refine gate_dst (N := 30) rfl ?_); refine wp_append H.pull1 rfl _ _ _ _ 48 rfl Try.underlying49 info_cl3 rfl (by decide) (by decide) ⟨true, ⟨0, 0⟩, 0, 0, drop, set, clr, more, pref⟩ [.bool true, .int .u32 0, .int .i64 0, .int .u8 0, .int .u8 0, .bool drop, .int .u8 set, .int .u8 clr, .int .i64 more, .int .i64 pref] rfl rfl (fun _ _ => rfl) (by have := hacc.out.2; omega) ?_; clear H x0 x1 x2 x3 x4 x5 x6 x7 x8 x9 y0 y1; intro v1 W1 H; have x0 := (H.boxcell (.tail _ (.head _)) 0 _ rfl).1; have x1 := (H.boxcell (.tail _ (.head _)) 1 _ rfl).1; have x2 := (H.boxcell (.tail _ (.head _)) 2 _ rfl).1; have x3 := (H.boxcell (.tail _ (.head _)) 3 _ rfl).1; have x4 := (H.boxcell (.tail _ (.head _)) 4 _ rfl).1; have x5 := (H.boxcell (.tail _ (.head _)) 5 _ rfl).1; have x6 := (H.boxcell (.tail _ (.head _)) 6 _ rfl).1; have x7 := (H.boxcell (.tail _ (.head _)) 7 _ rfl).1; have x8 := (H.boxcell (.tail _ (.head _)) 8 _ rfl).1; have x9 := (H.boxcell (.tail _ (.head _)) 9 _ rfl).1))
            go_ret; exact ⟨_, rfl, by rw [hfin.out]; exact H.pull1.drop.pull1.drop⟩
          · have hnx : Hid (forB ⟨a, b⟩ cs = (acc ++ [⟨true, ⟨0, 0⟩, 0, out, drop, set, clr, more, pref⟩]) ++ forB ⟨a, b⟩ (cs.drop (k + 1))) := by rw [Hid, hacc.out.1]; simp [ho0]
            have ho1 : (out == 0) = false := by simpa using ho0
            go_wp2_with (first
              | ((with_reducible refine gate_dst (N := 13) rfl ?_); refine wp_ldcells [.bool true, .int .u32 pa, .int .i64 pb, .int .u8 0, .int .u8 out, .bool drop, .int .u8 set, .int .u8 clr, .int .i64 more, .int .i64 pref] hx.out rfl _ _ rfl rfl _ Try.underlying116 rfl (by kernel_rfl) ?_)
              | ((with_reducible refine gate_dst (N := 7) rfl ?_); refine wp_alloc H rfl _ rfl _ info_cl _ rfl ?_; clear H hx; intro gc W1 H)
              | (refine wp_stbox H rfl _ _ _ rfl 0 rfl _ rfl _ rfl (by kernel_rfl) rfl (Nat.le_of_ble_eq_true rfl) [.bool true, .int .u32 pa, .int .i64 pb, .int .u8 0, .int .u8 out, .bool drop, .int .u8 set, .int .u8 clr, .int .i64 more, .int .i64 pref] rfl ?_; clear H ; intro W2 H; have x0 := (H.boxcell (.head _) 0 _ rfl).1; have x1 := (H.boxcell (.head _) 1 _ rfl).1; have x2 := (H.boxcell (.head _) 2 _ rfl).1; have x3 := (H.boxcell (.head _) 3 _ rfl).1; have x4 := (H.boxcell (.head _) 4 _ rfl).1; have x5 := (H.boxcell (.head _) 5 _ rfl).1; have x6 := (H.boxcell (.head _) 6 _ rfl).1; have x7 := (H.boxcell (.head _) 7 _ rfl).1; have x8 := (H.boxcell (.head _) 8 _ rfl).1; have x9 := (H.boxcell (.head _) 9 _ rfl).1; have y0 := (H.boxcell (.tail _ (.tail _ (.head _))) 0 _ rfl).1; have y1 := (H.boxcell (.tail _ (.tail _ (.head _))) 1 _ rfl).1)
              | (refine wp_stbox H rfl _ _ _ rfl 1 rfl _ rfl _ rfl (by kernel_rfl) rfl (Nat.le_of_ble_eq_true rfl) [.bool true, .int .u32 0, .int .i64 0, .int .u8 0, .int .u8 out, .bool drop, .int .u8 set, .int .u8 clr, .int .i64 more, .int .i64 pref] rfl ?_; clear H x0 x1 x2 x3 x4 x5 x6 x7 x8 x9 y0 y1; intro W2 H; have x0 := (H.boxcell (.head _) 0 _ rfl).1; have x1 := (H.boxcell (.head _) 1 _ rfl).1; have x2 := (H.boxcell (.head _) 2 _ rfl).1; have x3 := (H.boxcell (.head _) 3 _ rfl).1; have x4 := (H.boxcell (.head _) 4 _ rfl).1; have x5 := (H.boxcell (.head _) 5 _ rfl).1; have x6 := (H.boxcell (.head _) 6 _ rfl).1; have x7 := (H.boxcell (.head _) 7 _ rfl).1; have x8 := (H.boxcell (.head _) 8 _ rfl).1; have x9 := (H.boxcell (.head _) 9 _ rfl).1; have y0 := (H.boxcell (.tail _ (.tail _ (.head _))) 0 _ rfl).1; have y1 := (H.boxcell (.tail _ (.tail _ (.head _))) 1 _ rfl).1)
              | ((with_reducible refine gate_dst (N := 30) rfl ?_); refine wp_append H.pull1 rfl _ _ _ _ 48 rfl Try.underlying49 info_cl3 rfl (by decide) (by decide) ⟨true, ⟨0, 0⟩, 0, out, drop, set, clr, more, pref⟩ [.bool true, .int .u32 0, .int .i64 0, .int .u8 0, .int .u8 out, .bool drop, .int .u8 set, .int .u8 clr, .int .i64 more, .int .i64 pref] rfl rfl (fun _ _ => rfl) (by have := hacc.out.2; omega) ?_; clear H x0 x1 x2 x3 x4 x5 x6 x7 x8 x9 y0 y1; intro v1 W1 H; have x0 := (H.boxcell (.tail _ (.head _)) 0 _ rfl).1; have x1 := (H.boxcell (.tail _ (.head _)) 1 _ rfl).1; have x2 := (H.boxcell (.tail _ (.head _)) 2 _ rfl).1; have x3 := (H.boxcell (.tail _ (.head _)) 3 _ rfl).1; have x4 := (H.boxcell (.tail _ (.head _)) 4 _ rfl).1; have x5 := (H.boxcell (.tail _ (.head _)) 5 _ rfl).1; have x6 := (H.boxcell (.tail _ (.head _)) 6 _ rfl).1; have x7 := (H.boxcell (.tail _ (.head _)) 7 _ rfl).1; have x8 := (H.boxcell (.tail _ (.head _)) 8 _ rfl).1; have x9 := (H.boxcell (.tail _ (.head _)) 9 _ rfl).1))
            go_roundw
            case rel => exact ⟨k + 1, _, by omega, by go_num, ⟨hnx.out, by have := hacc.out.2; simp; omega⟩, H.pull1.drop⟩
            case measure => simp [intOf]; omega
        · have hnx : Hid (forB ⟨a, b⟩ cs = (acc ++ [⟨true, ⟨0, 0⟩, wth, out, drop, set, clr, more, pref⟩]) ++ forB ⟨a, b⟩ (cs.drop (k + 1))) := by rw [Hid, hacc.out.1]; simp [hw0]
          have hw1 : (wth == 0) = false := by simpa using hw0
          go_wp2_with (first
            | ((with_reducible refine gate_dst (N := 13) rfl ?_); refine wp_ldcells [.bool true, .int .u32 pa, .int .i64 pb, .int .u8 wth, .int .u8 out, .bool drop, .int .u8 set, .int .u8 clr, .int .i64 more, .int .i64 pref] hx.out rfl _ _ rfl rfl _ Try.underlying116 rfl (by kernel_rfl) ?_)
            | ((with_reducible refine gate_dst (N := 7) rfl ?_); refine wp_alloc H rfl _ rfl _ info_cl _ rfl ?_; clear H hx; intro gc W1 H)
            | (refine wp_stbox H rfl _ _ _ rfl 0 rfl _ rfl _ rfl (by kernel_rfl) rfl (Nat.le_of_ble_eq_true rfl) [.bool true, .int .u32 pa, .int .i64 pb, .int .u8 wth, .int .u8 out, .bool drop, .int .u8 set, .int .u8 clr, .int .i64 more, .int .i64 pref] rfl ?_; clear H ; intro W2 H; have x0 := (H.boxcell (.head _) 0 _ rfl).1; have x1 := (H.boxcell (.head _) 1 _ rfl).1; have x2 := (H.boxcell (.head _) 2 _ rfl).1; have x3 := (H.boxcell (.head _) 3 _ rfl).1; have x4 := (H.boxcell (.head _) 4 _ rfl).1; have x5 := (H.boxcell (.head _) 5 _ rfl).1; have x6 := (H.boxcell (.head _) 6 _ rfl).1; have x7 := (H.boxcell (.head _) 7 _ rfl).1; have x8 := (H.boxcell (.head _) 8 _ rfl).1; have x9 := (H.boxcell (.head _) 9 _ rfl).1; have y0 := (H.boxcell (.tail _ (.tail _ (.head _))) 0 _ rfl).1; have y1 := (H.boxcell (.tail _ (.tail _ (.head _))) 1 _ rfl).1)
            | (refine wp_stbox H rfl _ _ _ rfl 1 rfl _ rfl _ rfl (by kernel_rfl) rfl (Nat.le_of_ble_eq_true rfl) [.bool true, .int .u32 0, .int .i64 0, .int .u8 wth, .int .u8 out, .bool drop, .int .u8 set, .int .u8 clr, .int .i64 more, .int .i64 pref] rfl ?_; clear H x0 x1 x2 x3 x4 x5 x6 x7 x8 x9 y0 y1; intro W2 H; have x0 := (H.boxcell (.head _) 0 _ rfl).1; have x1 := (H.boxcell (.head _) 1 _ rfl).1; have x2 := (H.boxcell (.head _) 2 _ rfl).1; have x3 := (H.boxcell (.head _) 3 _ rfl).1; have x4 := (H.boxcell (.head _) 4 _ rfl).1; have x5 := (H.boxcell (.head _) 5 _ rfl).1; have x6 := (H.boxcell (.head _) 6 _ rfl).1; have x7 := (H.boxcell (.head _) 7 _ rfl).1; have x8 := (H.boxcell (.head _) 8 _ rfl).1; have x9 := (H.boxcell (.head _) 9 _ rfl).1; have y0 := (H.boxcell (.tail _ (.tail _ (.head _))) 0 _ rfl).1; have y1 := (H.boxcell (.tail _ (.tail _ (.head _))) 1 _ rfl).1)
            | ((with_reducible refine gate_dst (N := 30) rfl ?_); refine wp_append H.pull1 rfl _ _ _ _ 48 rfl Try.underlying49 info_cl3 rfl (by decide) (by decide) ⟨true, ⟨0, 0⟩, wth, out, drop, set, clr, more, pref⟩ [.bool true, .int .u32 0, .int .i64 0, .int .u8 wth, .int .u8 out, .bool drop, .int .u8 set, .int .u8 clr, .int .i64 more, .int .i64 pref] rfl rfl (fun _ _ => rfl) (by have := hacc.out.2; omega) ?_; clear H x0 x1 x2 x3 x4 x5 x6 x7 x8 x9 y0 y1; intro v1 W1 H; have x0 := (H.boxcell (.tail _ (.head _)) 0 _ rfl).1; have x1 := (H.boxcell (.tail _ (.head _)) 1 _ rfl).1; have x2 := (H.boxcell (.tail _ (.head _)) 2 _ rfl).1; have x3 := (H.boxcell (.tail _ (.head _)) 3 _ rfl).1; have x4 := (H.boxcell (.tail _ (.head _)) 4 _ rfl).1; have x5 := (H.boxcell (.tail _ (.head _)) 5 _ rfl).1; have x6 := (H.boxcell (.tail _ (.head _)) 6 _ rfl).1; have x7 := (H.boxcell (.tail _ (.head _)) 7 _ rfl).1; have x8 := (H.boxcell (.tail _ (.head _)) 8 _ rfl).1; have x9 := (H.boxcell (.tail _ (.head _)) 9 _ rfl).1))
          go_roundw
          case rel => exact ⟨k + 1, _, by omega, by go_num, ⟨hnx.out, by have := hacc.out.2; simp; omega⟩, H.pull1.drop⟩
          case measure => simp [intOf]; omega
    · obtain rfl : k = cs.length := by omega
      (have hfin : Hid (forB ⟨a, b⟩ cs = acc) := by rw [Hid, hacc.out.1, List.drop_length]; exact List.append_nil _); go_wp2; go_ret; exact ⟨_, rfl, by rw [hfin.out]; exact H.pull1.drop⟩
end Go.Proofs.Ytcagkdgpoijkoaa.Cls
end
