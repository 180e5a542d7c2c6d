/- Texts of this work, joined: SortS, Eq, SortP, Pfx, Cl, Low, Peer, Map, Net, Net2. -/
import Derived.Shelf.SlSortCmp.NoneTotal
import Derived.Test.YtcagkdgpoijkoaaProg
import Derived.Test.YtcagkdgpoijkoaaJ1
import Derived.Laws.StructEq
import Derived.Maps.Keyed
import Derived.DeepKeys5
import Derived.Carry
import Derived.Deep.CutRange
section
namespace Go.Proofs
open Go.Shelf
def Try.sortPfx_ren : Go.Shelf.Ren := ⟨fun | 6 => 37 | 15 => 45 | 14 => 49 | 28 => 61 | 29 => 62 | 20 => 64 | 21 => 65 | 22 => 66 | 23 => 67 | 24 => 68 | 25 => 69 | 26 => 70 | 27 => 71 | 46 => 80 | 47 => 75 | 48 => 76 | 49 => 81 | 50 => 82 | 57 => 84 | n => n, fun | 22 => 72 | 24 => 35 | 25 => 101 | 3 => 3 | 39 => 111 | 0 => 0 | 53 => 33 | 55 => 131 | 4 => 4 | 46 => 123 | 45 => 122 | 50 => 105 | 5 => 5 | 9 => 9 | 66 => 140 | 70 => 144 | 76 => 149 | 77 => 150 | n => n, fun | n => n⟩
theorem Try.sortPfx : Go.Proofs.SlLaysF0.n6 Try.prog Try.sortPfx_ren := {
  mixed := by kernel_rfl
  f6 := ⟨Try.f37.name, by decide, Try.func37.trans (congrArg some (by kernel_rfl))⟩
  f14 := ⟨Try.f49.name, by decide, Try.func49.trans (congrArg some (by kernel_rfl))⟩
  f15 := Try.func45.trans (congrArg some (by kernel_rfl))
  f20 := ⟨Try.f64.name, by decide, Try.func64.trans (congrArg some (by kernel_rfl))⟩
  f21 := ⟨Try.f65.name, by decide, Try.func65.trans (congrArg some (by kernel_rfl))⟩
  f22 := ⟨Try.f66.name, by decide, Try.func66.trans (congrArg some (by kernel_rfl))⟩
  f23 := ⟨Try.f67.name, by decide, Try.func67.trans (congrArg some (by kernel_rfl))⟩
  f24 := ⟨Try.f68.name, by decide, Try.func68.trans (congrArg some (by kernel_rfl))⟩
  f25 := ⟨Try.f69.name, by decide, Try.func69.trans (congrArg some (by kernel_rfl))⟩
  f26 := ⟨Try.f70.name, by decide, Try.func70.trans (congrArg some (by kernel_rfl))⟩
  f27 := ⟨Try.f71.name, by decide, Try.func71.trans (congrArg some (by kernel_rfl))⟩
  f28 := Try.func61.trans (congrArg some (by kernel_rfl))
  f29 := Try.func62.trans (congrArg some (by kernel_rfl))
  f46 := ⟨Try.f80.name, by decide, Try.func80.trans (congrArg some (by kernel_rfl))⟩
  f47 := Try.func75.trans (congrArg some (by kernel_rfl))
  f48 := Try.func76.trans (congrArg some (by kernel_rfl))
  f49 := ⟨Try.f81.name, by decide, Try.func81.trans (congrArg some (by kernel_rfl))⟩
  f50 := ⟨Try.f82.name, by decide, Try.func82.trans (congrArg some (by kernel_rfl))⟩
  f57 := ⟨Try.f84.name, by decide, Try.func84.trans (congrArg some (by kernel_rfl))⟩
  t0 := Try.underlying0
  a0 := Try.isAgg0
  z0 := Try.sizeOf0
  v0 := Try.zeroValue0
  t3 := Try.underlying3
  a3 := Try.isAgg3
  z3 := Try.sizeOf3
  v3 := Try.zeroValue3
  t4 := Try.underlying4
  a4 := Try.isAgg4
  z4 := Try.sizeOf4
  v4 := Try.zeroValue4
  t5 := Try.underlying5
  a5 := Try.isAgg5
  z5 := Try.sizeOf5
  v5 := Try.zeroValue5
  t9 := Try.underlying9
  a9 := Try.isAgg9
  z9 := Try.sizeOf9
  v9 := Try.zeroValue9
  t22 := Try.underlying72
  a22 := Try.isAgg72
  z22 := Try.sizeOf72
  v22 := Try.zeroValue72
  t25 := Try.underlying101
  a25 := Try.isAgg101
  z25 := Try.sizeOf101
  v25 := Try.zeroValue101
  t39 := Try.underlying111
  a39 := Try.isAgg111
  z39 := Try.sizeOf111
  v39 := Try.zeroValue111
  t45 := Try.underlying122
  a45 := Try.isAgg122
  z45 := Try.sizeOf122
  v45 := Try.zeroValue122
  t46 := Try.underlying123
  a46 := Try.isAgg123
  z46 := Try.sizeOf123
  v46 := Try.zeroValue123
  t50 := Try.underlying105
  a50 := Try.isAgg105
  z50 := Try.sizeOf105
  v50 := Try.zeroValue105
  t53 := Try.underlying33
  a53 := Try.isAgg33
  z53 := Try.sizeOf33
  v53 := Try.zeroValue33
  t55 := Try.underlying131
  a55 := Try.isAgg131
  z55 := Try.sizeOf131
  v55 := Try.zeroValue131
  t66 := Try.underlying140
  a66 := Try.isAgg140
  z66 := Try.sizeOf140
  v66 := Try.zeroValue140
  t70 := Try.underlying144
  a70 := Try.isAgg144
  z70 := Try.sizeOf144
  v70 := Try.zeroValue144
  t76 := Try.underlying149
  a76 := Try.isAgg149
  z76 := Try.sizeOf149
  v76 := Try.zeroValue149
  t77 := Try.underlying150
  a77 := Try.isAgg150
  z77 := Try.sizeOf150
  v77 := Try.zeroValue150 }
end Go.Proofs
end
section
namespace Go.Proofs.Ytcagkdgpoijkoaa.Eq
open Go.RowKit Go.Proofs.Ytcagkdgpoijkoaa.Mq
set_option linter.unusedVariables false
set_option linter.unusedSimpArgs false
set_option maxRecDepth 100000 in
theorem eqf_last {P : Program} {d : Nat} {xs ys : Array Value} {f : Field} {a b : Value} {r : Bool} {w : World} (hn : f.name ≠ "_") (ha : (part f.type xs f.offset).run P w = .ok a w) (hb : (part f.type ys f.offset).run P w = .ok b w) (he : (Op.equalIn d f.type a b).run P w = .ok r w) : (Op.eqFields d xs ys [f]).run P w = .ok r w := by
  simp only [Op.eqFields, if_pos hn, Sem.run_bind, ha, hb, he, Result.andThen_ok]; cases r <;> simp
theorem eqf_cons {P : Program} {d : Nat} {xs ys : Array Value} {f : Field} {fs : List Field} {a b : Value} {r s : Bool} {w : World} (hn : f.name ≠ "_") (ha : (part f.type xs f.offset).run P w = .ok a w) (hb : (part f.type ys f.offset).run P w = .ok b w) (he : (Op.equalIn d f.type a b).run P w = .ok r w) (hr : (Op.eqFields d xs ys fs).run P w = .ok s w) : (Op.eqFields d xs ys (f :: fs)).run P w = .ok (r && s) w := by
  rw [Op.eqFields]; simp only [if_pos hn, Sem.run_bind, ha, hb, he, Result.andThen_ok]; cases r
  · simp
  · simpa using hr
theorem eq_struct {P : Program} {d : Nat} {xs ys : Array Value} {t : TypeId} {fs : Array Field} {r : Bool} {w : World} (hu : P.underlying t = some (.struct fs)) (hp : P.stoodInHeld t = false) (h : (Op.eqFields d xs ys fs.toList).run P w = .ok r w) : (Op.equalIn (d + 1) t (.agg xs) (.agg ys)).run P w = .ok r w := by
  (have hf : P.fieldsOf t = fs := by simp [Program.fieldsOf, hu]); rw [run_equalIn_struct (P := P) w d t xs ys (by rw [hf]; exact hu) hp, hf]; exact h
theorem eqin_pf (w : World) (n : Nat) (a b c d : Int) : (Op.equalIn (n + 2) 35 (.agg #[.int .u32 a, .int .i64 b]) (.agg #[.int .u32 c, .int .i64 d])).run Try.prog w = .ok (a == c && b == d) w := by
  refine eq_struct Try.underlying35 (by kernel_rfl) (eqf_cons (a := .int .u32 a) (b := .int .u32 c) (by decide) ?_ ?_ ?_ (eqf_last (a := .int .i64 b) (b := .int .i64 d) (by decide) ?_ ?_ ?_))
  all_goals simp [part, Op.equalIn, isAgg, go_sem]
theorem eql_pf (w : World) (a b c d : Int) : (binOp .eql 35 (.agg #[.int .u32 a, .int .i64 b]) (.agg #[.int .u32 c, .int .i64 d])).run Try.prog w = .ok (.bool (a == c && b == d)) w := by
  simp only [binOp]; simp [Op.equal, Op.maxDepth, eqin_pf w 9998 a b c d]
end Go.Proofs.Ytcagkdgpoijkoaa.Eq
end
section
namespace Go.Proofs.Ytcagkdgpoijkoaa.SortP
open Go.RowKit Go.Sort Go.Proofs.Ytcagkdgpoijkoaa.Mq
set_option linter.unusedVariables false
set_option linter.unusedSimpArgs false
attribute [local go_sem ↓] Eq.eql_pf
instance : Inhabited Pf := ⟨⟨0, 0⟩⟩
def lessB (p q : Pf) : Bool := decide (p.addr < q.addr) || (p.addr == q.addr && decide (p.bits < q.bits))
def cfB (p q : Pf) : Int := if p = q then 0 else if lessB p q = true then -1 else 1
set_option maxHeartbeats 1000000 in
theorem less_calls (a b c d : Int) (W : World) : Calls Try.prog 39 #[.agg #[.int .u32 a, .int .i64 b], .agg #[.int .u32 c, .int .i64 d]] W fun e w' => e = .returned (.bool (lessB ⟨a, b⟩ ⟨c, d⟩)) ∧ ∃ os', w' = grow W os' := by
  by_cases h1 : a < c
  · have e1 : decide (a < c) = true := decide_eq_true h1
    (have e9 : lessB ⟨a, b⟩ ⟨c, d⟩ = true := by simp [lessB, h1]); rw [e9]; go_enter Try.func39, Try.ntmps39; go_wp2; go_ret; exact ⟨rfl, _, by rw [alloc_eq_grow, alloc_eq_grow, grow_grow]⟩
  · have e1 : decide (a < c) = false := decide_eq_false h1
    by_cases h2 : a = c
    · subst h2
      (have e2 : (a == a) = true := by simp); (have e9 : lessB ⟨a, b⟩ ⟨a, d⟩ = decide (b < d) := by simp [lessB]); rw [e9]; generalize hq : decide (b < d) = q; go_enter Try.func39, Try.ntmps39; go_wp2; go_ret; exact ⟨by simp [hq], _, by rw [alloc_eq_grow, alloc_eq_grow, grow_grow]⟩
    · have e2 : (a == c) = false := beq_eq_false_iff_ne.mpr h2
      (have e9 : lessB ⟨a, b⟩ ⟨c, d⟩ = false := by simp [lessB, h1, h2]); rw [e9]; go_enter Try.func39, Try.ntmps39; go_wp2; go_ret; exact ⟨rfl, _, by rw [alloc_eq_grow, alloc_eq_grow, grow_grow]⟩
set_option maxHeartbeats 1000000 in
theorem closure_calls (p q : Pf) (W : World) : Calls Try.prog 38 #[.agg #[.int .u32 p.addr, .int .i64 p.bits], .agg #[.int .u32 q.addr, .int .i64 q.bits]] W fun e w' => e = .returned (.int .i64 (cfB p q)) ∧ ∃ n os', w' = grow (W.drewN n) os' := by
  obtain ⟨a, b⟩ := p; obtain ⟨c, d⟩ := q; have hl := less_calls a b c d; by_cases he : a = c ∧ b = d
  · obtain ⟨rfl, rfl⟩ := he
    (have e1 : (a == a && b == b) = true := by simp); (have e9 : cfB ⟨a, b⟩ ⟨a, b⟩ = 0 := by simp [cfB]); rw [e9]; go_enter Try.func38, Try.ntmps38; go_wp2; go_ret; exact ⟨rfl, 0, _, by rw [alloc_eq_grow, alloc_eq_grow, grow_grow]; rfl⟩
  · have e1 : (a == c && b == d) = false := by
      cases h : (a == c && b == d) with
      | false => rfl
      | true =>
        simp at h; exact absurd h he
    have e9 : cfB ⟨a, b⟩ ⟨c, d⟩ = if lessB ⟨a, b⟩ ⟨c, d⟩ = true then -1 else 1 := by
      unfold cfB; rw [if_neg (by intro h; injection h with h1 h2; exact he ⟨h1, h2⟩)]
    rw [e9]; generalize lessB ⟨a, b⟩ ⟨c, d⟩ = lb at hl; cases lb
    all_goals
      go_enter Try.func38, Try.ntmps38; go_wp2_with (go_at_call 39; refine (hl _).mono ?_; rintro e w' ⟨rfl, os', rfl⟩); go_ret; exact ⟨rfl, 0, _, by rw [alloc_eq_grow, alloc_eq_grow, grow_grow, grow_grow]; rfl⟩
theorem lt_eq (p q : Pf) : ltOf cfB p q = lessB p q := by
  unfold ltOf cfB; by_cases h : p = q
  · subst h
    simp [lessB]
  · rw [if_neg h]
    cases lessB p q <;> simp
theorem swo : SWO (ltOf cfB) where
  irrefl x := by rw [lt_eq]; simp [lessB]
  trans x y z h1 h2 := by
    rw [lt_eq] at *; simp only [lessB, Bool.or_eq_true, decide_eq_true_eq, Bool.and_eq_true, beq_iff_eq] at *; omega
  ntrans x y z h1 h2 := by
    rw [lt_eq] at *; simp only [lessB, Bool.or_eq_false_iff, decide_eq_false_iff_not, Bool.and_eq_false_iff, beq_eq_false_iff_ne] at *; omega
theorem total (x y : Pf) (h1 : ltOf cfB x y = false) (h2 : ltOf cfB y x = false) : x = y := by
  rw [lt_eq] at *; simp only [lessB, Bool.or_eq_false_iff, decide_eq_false_iff_not, Bool.and_eq_false_iff, beq_eq_false_iff_ne] at *; cases x; cases y; simp only at *; congr 1 <;> omega
def leB (x y : Pf) : Bool := !(lessB y x)
theorem cmpLays (blk off size : Nat) (w : World) : CmpLays Try.prog 38 #[] Pf.enc 2 cfB blk off size w :=
  fun _ _ _ _ x y => closure_calls x y _
theorem take_put (F cur : Array Value) (h : F.size ≤ cur.size) : (putCells (fun v : Value => v) 0 F cur).toList.take F.size = F.toList := by
  apply List.ext_getElem?; intro i; rw [List.getElem?_take]; by_cases hi : i < F.size
  · rw [if_pos hi]
    simp [putCells, hi, show i < cur.size by omega]
  · rw [if_neg hi, List.getElem?_eq_none (by simpa using hi)]
theorem flat_at (ys : List Pf) (j i : Nat) (p : Pf) (hj : ys[j]? = some p) (hi : i < 2) : (flatK Pf.enc 2 ys.toArray)[j * 2 + i]? = (p.enc)[i]? := by
  obtain ⟨hj1, rfl⟩ := List.getElem?_eq_some_iff.1 hj; (have ht : j * 2 + i < ys.toArray.size * 2 := by simp; omega); have h := get_flatK Pf.enc 2 ys.toArray (j * 2 + i) ht; rw [getElem!_pos _ _ (by simpa using ht)] at h; rw [Array.getElem?_eq_getElem (by simpa using ht), h, show (j * 2 + i) / 2 = j by omega, show (j * 2 + i) % 2 = i by omega]
  have e1 : ys.toArray[j]! = ys[j] := by
    rw [getElem!_pos _ _ (by simpa using hj1)]; rfl
  rw [e1]; have hl : i < (ys[j].enc).length := hi; rw [getElem!_pos (ys[j].enc) i hl, List.getElem?_eq_getElem hl]
theorem sortp_mem {M Z : Nat → Prop} {w0 W : World} {R l : List Asr} {v : Value} {xs : List Pf} (H : MemM M Z w0 W R (own pfR 35 v xs :: l)) (hl : xs.length < 4611686018427387904) :
    Calls Try.prog 37 #[v, .func (.func 38) #[] #[]] W fun e W1 => e = .returned (.tuple #[]) ∧ MemM M Z w0 W1 R (own pfR 35 v (xs.mergeSort leB) :: l) := by
  obtain ⟨F, S, ⟨h1, cells, ⟨hil, ho⟩, hr⟩, h2, h3, h4, h5, h6⟩ := H.open1; rcases ho with ⟨rfl, hn⟩ | ⟨g, cap, cur, rfl, hg, hh, hn, hm, hs, ht⟩
  · have : xs = [] := List.eq_nil_of_length_eq_zero hn
    subst this; have hcon := AnyF.slices_SortFunc_none (P := Try.prog) (ρ := Try.sortPfx_ren) Try.sortPfx none 0 (.func (.func 38) #[] #[]) W; refine hcon.mono ?_; rintro e w' ⟨rfl, rfl⟩; exact ⟨rfl, by simpa using H⟩
  · have hgs : g < W.heap.size := (Array.getElem?_eq_some_iff.1 hh).1
    (have hcs : xs.length * 2 ≤ cur.size := by rw [hs]; show xs.length * 2 ≤ cap * 2; omega); have hfs : (flatK Pf.enc 2 xs.toArray).size = xs.length * 2 := by simp
    have hH : HoldsK Pf.enc 2 W g 0 xs.toArray := by
      intro t htt; rw [hfs] at htt; (have hj : t / 2 < xs.length := by omega); have hp := hr.2 (t / 2) xs[t / 2] (List.getElem?_eq_getElem hj); have hp' : ((cells.drop (t / 2 * 2)).take 2) = xs[t / 2].enc := hp; have hc := Reps.cells hr (List.getElem?_eq_getElem hj) (show t % 2 < 2 by omega); have hc' : cells[t / 2 * 2 + t % 2]? = ((cells.drop (t / 2 * 2)).take 2)[t % 2]? := hc; rw [hp', ← flat_at xs (t / 2) (t % 2) _ (List.getElem?_eq_getElem hj) (by omega), show t / 2 * 2 + t % 2 = t by omega] at hc'; rw [Array.getElem?_eq_getElem (by rw [hfs]; exact htt)] at hc'
      have hcur : cur[t]? = some (flatK Pf.enc 2 xs.toArray)[t] := by
        rw [← ht, List.getElem?_take] at hc'; split at hc'
        · simpa using hc'
        · cases hc'
      refine ⟨?_, ?_⟩
      · rw [Nat.zero_add, getElem!_pos _ _ (by rw [hfs]; exact htt)]
        simp [World.cell?, hh, hcur]
      · simp [World.frozen?, hh]
    have hcon := AnyQ.slices_SortFunc_total (P := Try.prog) (ρ := Try.sortPfx_ren) Try.sortPfx 2 Try.isAgg35 Try.sizeOf35 Pf.enc (fun _ => rfl) (fun x v hv => by simp [Pf.enc] at hv; rcases hv with rfl | rfl <;> rfl) cfB swo 38 #[] g 0 cap xs.toArray W (enters_of Try.func38 (by kernel_rfl) rfl) (cmpLays g 0 _ W) hH hgs (by simpa using hl) total
    have hcon' : Calls Try.prog 37 #[.slice (some ⟨g, 0, none⟩) xs.length cap, .func (.func 38) #[] #[]] W fun e w' => e = .returned (.tuple #[]) ∧ ∃ n os, w' = sortWorldK Pf.enc 2 W g 0 n (xs.mergeSort leB).toArray os := by
      have e : (xs.toArray.toList.mergeSort fun x y => !(ltOf cfB) y x) = xs.mergeSort leB := by
        have : (fun x y => !(ltOf cfB) y x) = leB := by
          funext x y; rw [lt_eq]; rfl
        rw [this]
      rw [e] at hcon; exact hcon
    refine hcon'.mono ?_; rintro e w' ⟨rfl, m, os, rfl⟩; generalize hys : xs.mergeSort leB = ys; (have hyl : ys.length = xs.length := by rw [← hys]; simp); have hyf : (flatK Pf.enc 2 ys.toArray).size = xs.length * 2 := by simp [hyl]
    have hb : ∀ k, k < W.heap.size → (sortWorldK Pf.enc 2 W g 0 m ys.toArray os).heap[k]? = if k = g then some (.cells (putCells (fun v : Value => v) 0 (flatK Pf.enc 2 ys.toArray) cur) 35 (0, 0)) else W.heap[k]? := by
      intro k hk; unfold sortWorldK putRowK; rw [heap_grow_old _ _ (by simpa [putRow, mapBlock, Go.Sort.ahead] using hk)]; unfold putRow mapBlock Go.Sort.ahead; simp only [Array.getElem?_modify]; by_cases hkg : k = g
      · subst hkg
        simp [hh, onCells]; rfl
      · simp [hkg, Ne.symm hkg]
    (have hsz : W.heap.size ≤ (sortWorldK Pf.enc 2 W g 0 m ys.toArray os).heap.size := by simp [sortWorldK, putRowK, grow, putRow, mapBlock, Go.Sort.ahead]); refine ⟨rfl, h6 _ (own pfR 35 (.slice (some ⟨g, 0, none⟩) xs.length cap) ys) (some g) ⟨rfl, rfl, rfl, hsz, fun k hk hne => ?_⟩ (fun k e => h1 k e) ⟨fun k hk => .inl (h1 k hk), (flatK Pf.enc 2 ys.toArray).toList, ⟨?_, .inr ⟨g, cap, _, by rw [hyl], hg, (hb g hgs).trans (if_pos rfl), by rw [hyl]; exact hn, hm, ?_, ?_⟩⟩, ?_, ?_⟩⟩
    · rw [hb k hk, if_neg (fun e : k = g => hne (by rw [e]))]
    · show _ = ys.length * 2
      rw [Array.length_toList, hyf, hyl]
    · simp only [putCells, Array.size_mapIdx]; exact hs
    · show List.take (ys.length * 2) _ = _
      rw [hyl, ← hyf]; exact take_put _ cur (by rw [hyf]; exact hcs)
    · show _ = ys.length * 2
      rw [Array.length_toList, hyf, hyl]
    · intro j p hj
      show (((flatK Pf.enc 2 ys.toArray).toList.drop (j * 2)).take 2) = p.enc; have hj1 := (List.getElem?_eq_some_iff.1 hj).1; apply List.ext_getElem?; intro i; rw [List.getElem?_take]; by_cases hi : i < 2
      · rw [if_pos hi, List.getElem?_drop, Array.getElem?_toList, flat_at ys j i p hj hi]
      · rw [if_neg hi, List.getElem?_eq_none (by show 2 ≤ i; omega)]
end Go.Proofs.Ytcagkdgpoijkoaa.SortP
end
section
namespace Go.Proofs.Ytcagkdgpoijkoaa.Pfx
open Go.RowKit Go.Proofs.Ytcagkdgpoijkoaa.Mq
set_option linter.unusedVariables false
set_option linter.unusedSimpArgs false
attribute [local go_sem] max2_int min2_int max_two min_two
def maskB (b : Int) : Int := if b ≤ 0 then 0 else 4294967295 * 2 ^ (32 - min b 32).toNat % 4294967296
theorem mask_calls {w : World} {b : Int} : Calls Try.prog 73 #[.int .i64 b] w fun e W => e = .returned (.int .u32 (maskB b)) ∧ w = W := by
  go_enter Try.func73, Try.ntmps73; by_cases h : b ≤ 0
  · have hm : Hid (maskB b = 0) := if_pos h
    go_wp2; go_ret; exact ⟨by rw [hm.out]; rfl, rfl⟩
  · have hm : Hid (maskB b = 4294967295 * 2 ^ (32 - min b 32).toNat % 4294967296) := if_neg h
    (have hd : (32 - min b 32).toNat < 4294967296 := by omega); by_cases h2 : b ≤ 32
    all_goals
      go_wp2; go_ret; exact ⟨by rw [hm.out]; rfl, rfl⟩
def mayB (p : Pf) : Bool := decide (0 ≤ p.bits) && decide (p.bits ≤ 32) && (bits .andNot .u32 p.addr (maskB p.bits) == 0)
set_option maxHeartbeats 1000000 in
theorem may_calls {w : World} (a b : Int) : Calls Try.prog 72 #[.agg #[.int .u32 a, .int .i64 b]] w fun e W => e = .returned (.bool (mayB ⟨a, b⟩)) ∧ Mem w W [] [] := by
  have H := (MemM.start w).box 35 [.int .u32 a, .int .i64 b]; go_enter Try.func72, Try.ntmps72; go_wp2_with fail; obtain ⟨c0, -⟩ := H.boxcell (.head _) 0 _ rfl; obtain ⟨c1, -⟩ := H.boxcell (.head _) 1 _ rfl; generalize w.heap.size = g at H c0 c1 ⊢; generalize w.alloc (.cells #[.int .u32 a, .int .i64 b] 35) = W at H c0 c1 ⊢; replace c0 := cell_regrown c0; replace c1 := cell_regrown c1; have hm : Hid (mayB ⟨a, b⟩ = (decide (0 ≤ b) && decide (b ≤ 32) && (bits .andNot .u32 a (maskB b) == 0))) := rfl; by_cases h0 : 0 ≤ b
  · by_cases h1 : b ≤ 32
    · have hm : Hid (mayB ⟨a, b⟩ = (bits .andNot .u32 a (maskB b) == 0)) := by rw [Hid, hm.out]; simp [h0, h1]
      refine wp_region_quiet_below (by kernel_rfl) (by kernel_rfl) ?_; (repeat (first | go_big_quiet_skip | (go_big_quiet_want; go_big_quiet_op; first | go_big_quiet_on | (apply Exists.intro; refine ⟨fun _ => ?_, ?_⟩; (go_at_call 73; exact calls_regrown' (fun W => mask_calls)); go_big_quiet_on)))); refine wpQuiet_nil ?_; intro Wq hw'; obtain ⟨pq, hw''⟩ := hw'; have hq := mem_of_regrown hw''; clear hw''; go_wp2; go_ret; exact ⟨by rw [hm.out]; rfl, (H.call hq).drop⟩
    · have hm : Hid (mayB ⟨a, b⟩ = false) := by rw [Hid, hm.out]; simp [h1]
      (have h1 : decide (b ≤ 32) = false := by simpa using h1); refine wp_region_quiet_below (by kernel_rfl) (by kernel_rfl) ?_; (repeat (first | go_big_quiet_skip | (go_big_quiet_want; go_big_quiet_op; first | go_big_quiet_on | (apply Exists.intro; refine ⟨fun _ => ?_, ?_⟩; (fail); go_big_quiet_on)))); refine wpQuiet_nil ?_; intro Wq hw'; obtain ⟨pq, hw''⟩ := hw'; have hq := mem_of_regrown hw''; clear hw''; go_wp2; go_ret; exact ⟨by rw [hm.out]; rfl, (H.call hq).drop⟩
  · have hm : Hid (mayB ⟨a, b⟩ = false) := by rw [Hid, hm.out]; simp [h0]
    (have h0 : decide (0 ≤ b) = false := by simpa using h0); refine wp_region_quiet_below (by kernel_rfl) (by kernel_rfl) ?_; (repeat (first | go_big_quiet_skip | (go_big_quiet_want; go_big_quiet_op; first | go_big_quiet_on | (apply Exists.intro; refine ⟨fun _ => ?_, ?_⟩; (fail); go_big_quiet_on)))); refine wpQuiet_nil ?_; intro Wq hw'; obtain ⟨pq, hw''⟩ := hw'; have hq := mem_of_regrown hw''; clear hw''; go_wp2; go_ret; exact ⟨by rw [hm.out]; rfl, (H.call hq).drop⟩
def coversB (p q : Pf) : Bool := mayB p && mayB q && decide (p.bits ≤ q.bits) && (bits .and .u32 q.addr (maskB p.bits) == p.addr)
set_option maxHeartbeats 2000000 in
theorem covers_calls {w : World} (a b c d : Int) : Calls Try.prog 50 #[.agg #[.int .u32 a, .int .i64 b], .agg #[.int .u32 c, .int .i64 d]] w fun e W => e = .returned (.bool (coversB ⟨a, b⟩ ⟨c, d⟩)) ∧ Mem w W [] [] := by
  have H := ((MemM.start w).box 35 [.int .u32 a, .int .i64 b]).box 35 [.int .u32 c, .int .i64 d]; go_enter Try.func50, Try.ntmps50; go_wp2_with fail; (have e1 : (w.alloc (.cells #[.int .u32 a, .int .i64 b] 35)).heap.size = w.heap.size + 1 := by simp); rw [e1] at H; generalize w.heap.size = g at H ⊢; generalize (w.alloc (.cells #[.int .u32 a, .int .i64 b] 35)).alloc (.cells #[.int .u32 c, .int .i64 d] 35) = W at H ⊢; have c0 := cell_regrown (H.boxcell (.head _) 0 _ rfl).1; have c1 := cell_regrown (H.boxcell (.head _) 1 _ rfl).1; have c2 := cell_regrown (H.boxcell (.tail _ (.head _)) 0 _ rfl).1; have c3 := cell_regrown (H.boxcell (.tail _ (.head _)) 1 _ rfl).1; (have hm1 : Hid (∀ W, Calls Try.prog 72 #[.agg #[.int .u32 a, .int .i64 b]] W fun e W' => e = .returned (.bool (mayB ⟨a, b⟩)) ∧ Mem W W' [] []) := fun W => may_calls a b); (have hm2 : Hid (∀ W, Calls Try.prog 72 #[.agg #[.int .u32 c, .int .i64 d]] W fun e W' => e = .returned (.bool (mayB ⟨c, d⟩)) ∧ Mem W W' [] []) := fun W => may_calls c d); have hcv : Hid (coversB ⟨a, b⟩ ⟨c, d⟩ = (mayB ⟨a, b⟩ && mayB ⟨c, d⟩ && decide (b ≤ d) && (bits .and .u32 c (maskB b) == a))) := rfl; generalize mayB ⟨a, b⟩ = m1 at hm1 hcv; generalize mayB ⟨c, d⟩ = m2 at hm2 hcv; cases m1
  · have hm : Hid (coversB ⟨a, b⟩ ⟨c, d⟩ = false) := by rw [Hid, hcv.out]; rfl
    refine wp_region_quiet_below (by kernel_rfl) (by kernel_rfl) ?_; (repeat (first | go_big_quiet_skip | (go_big_quiet_want; go_big_quiet_op; first | go_big_quiet_on | (apply Exists.intro; refine ⟨fun _ => ?_, ?_⟩; (first | (go_at_call_of 72 (Value.agg #[.int .u32 a, .int .i64 b]); exact calls_regrown hm1.out)); go_big_quiet_on)))); refine wpQuiet_nil ?_; intro Wq hw'; obtain ⟨pq, hw''⟩ := hw'; have hq := mem_of_regrown hw''; clear hw''; go_wp2; go_ret; exact ⟨by rw [hm.out]; rfl, (H.call hq).drop.drop⟩
  · cases m2
    · have hm : Hid (coversB ⟨a, b⟩ ⟨c, d⟩ = false) := by rw [Hid, hcv.out]; rfl
      refine wp_region_quiet_below (by kernel_rfl) (by kernel_rfl) ?_; (repeat (first | go_big_quiet_skip | (go_big_quiet_want; go_big_quiet_op; first | go_big_quiet_on | (apply Exists.intro; refine ⟨fun _ => ?_, ?_⟩; (first | (go_at_call_of 72 (Value.agg #[.int .u32 a, .int .i64 b]); exact calls_regrown hm1.out) | (go_at_call_of 72 (Value.agg #[.int .u32 c, .int .i64 d]); exact calls_regrown hm2.out)); go_big_quiet_on)))); refine wpQuiet_nil ?_; intro Wq hw'; obtain ⟨pq, hw''⟩ := hw'; have hq := mem_of_regrown hw''; clear hw''; go_wp2; go_ret; exact ⟨by rw [hm.out]; rfl, (H.call hq).drop.drop⟩
    · by_cases hbd : b ≤ d
      · have hm : Hid (coversB ⟨a, b⟩ ⟨c, d⟩ = (bits .and .u32 c (maskB b) == a)) := by rw [Hid, hcv.out]; simp [hbd]
        refine wp_region_quiet_below (by kernel_rfl) (by kernel_rfl) ?_; (repeat (first | go_big_quiet_skip | (go_big_quiet_want; go_big_quiet_op; first | go_big_quiet_on | (apply Exists.intro; refine ⟨fun _ => ?_, ?_⟩; (first | (go_at_call_of 72 (Value.agg #[.int .u32 a, .int .i64 b]); exact calls_regrown hm1.out) | (go_at_call_of 72 (Value.agg #[.int .u32 c, .int .i64 d]); exact calls_regrown hm2.out) | (go_at_call 73; exact calls_regrown' (fun W => mask_calls))); go_big_quiet_on)))); refine wpQuiet_nil ?_; intro Wq hw'; obtain ⟨pq, hw''⟩ := hw'; have hq := mem_of_regrown hw''; clear hw''; go_wp2; go_ret; exact ⟨by rw [hm.out]; rfl, (H.call hq).drop.drop⟩
      · have hm : Hid (coversB ⟨a, b⟩ ⟨c, d⟩ = false) := by rw [Hid, hcv.out]; simp [hbd]
        (have hbd : decide (b ≤ d) = false := by simpa using hbd); refine wp_region_quiet_below (by kernel_rfl) (by kernel_rfl) ?_; (repeat (first | go_big_quiet_skip | (go_big_quiet_want; go_big_quiet_op; first | go_big_quiet_on | (apply Exists.intro; refine ⟨fun _ => ?_, ?_⟩; (first | (go_at_call_of 72 (Value.agg #[.int .u32 a, .int .i64 b]); exact calls_regrown hm1.out) | (go_at_call_of 72 (Value.agg #[.int .u32 c, .int .i64 d]); exact calls_regrown hm2.out)); go_big_quiet_on)))); refine wpQuiet_nil ?_; intro Wq hw'; obtain ⟨pq, hw''⟩ := hw'; have hq := mem_of_regrown hw''; clear hw''; go_wp2; go_ret; exact ⟨by rw [hm.out]; rfl, (H.call hq).drop.drop⟩
end Go.Proofs.Ytcagkdgpoijkoaa.Pfx
end
section
namespace Go.Proofs.Ytcagkdgpoijkoaa.Cls
open Go.RowKit Go.Proofs.Ytcagkdgpoijkoaa.Mq Go.Proofs.Ytcagkdgpoijkoaa.Pfx
set_option linter.unusedVariables false
set_option linter.unusedSimpArgs false
def forB (to_ : Pf) : List Cl → List Cl
  | [] => []
  | c :: r => if !c.any && !coversB c.pre to_ then forB to_ r else { c with any := true, pre := ⟨0, 0⟩ } :: (if c.wth = 0 ∧ c.out = 0 then [] else forB to_ r)
theorem info_cl : (Try.prog.info? 116).map (·.zero) = some (some (.agg #[.bool false, .int .u32 0, .int .i64 0, .int .u8 0, .int .u8 0, .bool false, .int .u8 0, .int .u8 0, .int .i64 0, .int .i64 0])) := by kernel_rfl
theorem info_cl3 : (Try.prog.info? 116).map (fun i => (i.zero, i.size, i.bytes)) = some (some (.agg #[.bool false, .int .u32 0, .int .i64 0, .int .u8 0, .int .u8 0, .bool false, .int .u8 0, .int .u8 0, .int .i64 0, .int .i64 0]), 10, 48) := by kernel_rfl
set_option maxHeartbeats 4000000 in
set_option maxRecDepth 100000 in
theorem for_calls {w : World} {A0 : Option Addr} {cs : List Cl} {c0 : Nat} (h : Row clR w (· < w.heap.size) A0 cs) (hcl : cs.length ≤ 2000000000000) (a b : Int) :
    Calls Try.prog 51 #[.slice A0 cs.length c0, .agg #[.int .u32 a, .int .i64 b]] w fun e W => ∃ v, e = .returned v ∧ Mem w W [] [own clR 116 v (forB ⟨a, b⟩ cs)] := by
  have H := (MemM.start w).box 35 [.int .u32 a, .int .i64 b]; have hl := h.len; unfold maxLen at hl; go_enter Try.func51, Try.ntmps51; go_wp2_with fail; generalize w.heap.size = g at H ⊢; generalize w.alloc (.cells #[.int .u32 a, .int .i64 b] 35) = W at H ⊢; have H := (H.nilItem clR 116); go_loopw [5, 10] (fun v5 v10 W => ∃ (k : Nat) (acc : List Cl), k ≤ cs.length ∧ v10 = .int .i64 k ∧ Hid (forB ⟨a, b⟩ cs = acc ++ forB ⟨a, b⟩ (cs.drop k) ∧ acc.length ≤ k) ∧ Mem w W [] [own clR 116 v5 acc, box g 35 [.int .u32 a, .int .i64 b]]) (fun _ v10 _ => cs.length - (intOf v10).toNat)
  case atStart => exact ⟨0, [], Nat.zero_le _, rfl, ⟨rfl, Nat.le_refl _⟩, H⟩
  case round =>
    clear H; obtain ⟨k, acc, hk, rfl, hacc, H⟩ := hrel; by_cases hlt : k < cs.length
    · obtain ⟨c, hc⟩ : ∃ c, cs[k]? = some c := ⟨_, List.getElem?_eq_getElem hlt⟩
      (have hd : cs.drop k = c :: cs.drop (k + 1) := by rw [List.drop_eq_getElem_cons hlt]; congr 1; rw [List.getElem?_eq_getElem hlt] at hc; injection hc); rw [hd] at hacc; clear hd; obtain ⟨ad, rfl, hx⟩ := (H.arg h).flat1 hc; obtain ⟨any, ⟨pa, pb⟩, wth, out, drop, set, clr, more, pref⟩ := c; have hx := hide hx; clear hc; cases any
      · have hcov : Hid (∀ W, Calls Try.prog 50 #[.agg #[.int .u32 pa, .int .i64 pb], .agg #[.int .u32 a, .int .i64 b]] W fun e W' => e = .returned (.bool (coversB ⟨pa, pb⟩ ⟨a, b⟩)) ∧ Mem W W' [] []) := fun W => covers_calls pa pb a b
        have hw : Hid (forB ⟨a, b⟩ (⟨false, ⟨pa, pb⟩, wth, out, drop, set, clr, more, pref⟩ :: cs.drop (k + 1)) = if (!false && !coversB ⟨pa, pb⟩ ⟨a, b⟩) = true then forB ⟨a, b⟩ (cs.drop (k + 1)) else ⟨true, ⟨0, 0⟩, wth, out, drop, set, clr, more, pref⟩ :: (if wth = 0 ∧ out = 0 then [] else forB ⟨a, b⟩ (cs.drop (k + 1)))) := rfl; generalize coversB ⟨pa, pb⟩ ⟨a, b⟩ = m at hcov hw; rw [hw.out] at hacc; clear hw; cases m
        · have hacc := hide (show forB ⟨a, b⟩ cs = acc ++ forB ⟨a, b⟩ (cs.drop (k + 1)) ∧ acc.length ≤ k from hacc.out)
          go_wp2_with (first
            | ((with_reducible refine gate_dst (N := 13) rfl ?_); refine wp_ldcells [.bool false, .int .u32 pa, .int .i64 pb, .int .u8 wth, .int .u8 out, .bool drop, .int .u8 set, .int .u8 clr, .int .i64 more, .int .i64 pref] hx.out rfl _ _ rfl rfl _ Try.underlying116 rfl (by kernel_rfl) ?_)
            | ((with_reducible refine gate_dst (N := 7) rfl ?_); refine wp_alloc H rfl _ rfl _ info_cl _ rfl ?_; clear H hx; intro gc W1 H)
            | (refine wp_stbox H rfl _ _ _ rfl 0 rfl _ rfl _ rfl (by kernel_rfl) rfl (Nat.le_of_ble_eq_true rfl) [.bool false, .int .u32 pa, .int .i64 pb, .int .u8 wth, .int .u8 out, .bool drop, .int .u8 set, .int .u8 clr, .int .i64 more, .int .i64 pref] rfl ?_; clear H ; intro W2 H; have x0 := (H.boxcell (.head _) 0 _ rfl).1; have x1 := (H.boxcell (.head _) 1 _ rfl).1; have x2 := (H.boxcell (.head _) 2 _ rfl).1; have x3 := (H.boxcell (.head _) 3 _ rfl).1; have x4 := (H.boxcell (.head _) 4 _ rfl).1; have x5 := (H.boxcell (.head _) 5 _ rfl).1; have x6 := (H.boxcell (.head _) 6 _ rfl).1; have x7 := (H.boxcell (.head _) 7 _ rfl).1; have x8 := (H.boxcell (.head _) 8 _ rfl).1; have x9 := (H.boxcell (.head _) 9 _ rfl).1; have y0 := (H.boxcell (.tail _ (.tail _ (.head _))) 0 _ rfl).1; have y1 := (H.boxcell (.tail _ (.tail _ (.head _))) 1 _ rfl).1)
            | (go_at_call 50; refine (hcov.out _).mono ?_; rintro e W5 ⟨rfl, hm⟩; replace H := H.call hm; clear hm x0 x1 x2 x3 x4 x5 x6 x7 x8 x9 y0 y1; have x0 := (H.boxcell (.head _) 0 _ rfl).1; have x1 := (H.boxcell (.head _) 1 _ rfl).1; have x2 := (H.boxcell (.head _) 2 _ rfl).1; have x3 := (H.boxcell (.head _) 3 _ rfl).1; have x4 := (H.boxcell (.head _) 4 _ rfl).1; have x5 := (H.boxcell (.head _) 5 _ rfl).1; have x6 := (H.boxcell (.head _) 6 _ rfl).1; have x7 := (H.boxcell (.head _) 7 _ rfl).1; have x8 := (H.boxcell (.head _) 8 _ rfl).1; have x9 := (H.boxcell (.head _) 9 _ rfl).1; have y0 := (H.boxcell (.tail _ (.tail _ (.head _))) 0 _ rfl).1; have y1 := (H.boxcell (.tail _ (.tail _ (.head _))) 1 _ rfl).1))
          go_roundw
          case rel => exact ⟨k + 1, acc, by omega, by go_num, ⟨hacc.out.1, by have := hacc.out.2; omega⟩, H.drop⟩
          case measure => simp [intOf]; omega
        · skip
          have hacc := hide (show forB ⟨a, b⟩ cs = acc ++ ⟨true, ⟨0, 0⟩, wth, out, drop, set, clr, more, pref⟩ :: (if wth = 0 ∧ out = 0 then [] else forB ⟨a, b⟩ (cs.drop (k + 1))) ∧ acc.length ≤ k from hacc.out); by_cases hw0 : wth = 0
          · subst hw0
            by_cases ho0 : out = 0
            · subst ho0
              have hfin : Hid (forB ⟨a, b⟩ cs = acc ++ [⟨true, ⟨0, 0⟩, 0, 0, drop, set, clr, more, pref⟩]) := by rw [Hid, hacc.out.1]; simp
              go_wp2_with (first
                | ((with_reducible refine gate_dst (N := 13) rfl ?_); refine wp_ldcells [.bool false, .int .u32 pa, .int .i64 pb, .int .u8 0, .int .u8 0, .bool drop, .int .u8 set, .int .u8 clr, .int .i64 more, .int .i64 pref] hx.out rfl _ _ rfl rfl _ Try.underlying116 rfl (by kernel_rfl) ?_)
                | ((with_reducible refine gate_dst (N := 7) rfl ?_); refine wp_alloc H rfl _ rfl _ info_cl _ rfl ?_; clear H hx; intro gc W1 H)
                | (refine wp_stbox H rfl _ _ _ rfl 0 rfl _ rfl _ rfl (by kernel_rfl) rfl (Nat.le_of_ble_eq_true rfl) [.bool false, .int .u32 pa, .int .i64 pb, .int .u8 0, .int .u8 0, .bool drop, .int .u8 set, .int .u8 clr, .int .i64 more, .int .i64 pref] rfl ?_; clear H ; intro W2 H; have x0 := (H.boxcell (.head _) 0 _ rfl).1; have x1 := (H.boxcell (.head _) 1 _ rfl).1; have x2 := (H.boxcell (.head _) 2 _ rfl).1; have x3 := (H.boxcell (.head _) 3 _ rfl).1; have x4 := (H.boxcell (.head _) 4 _ rfl).1; have x5 := (H.boxcell (.head _) 5 _ rfl).1; have x6 := (H.boxcell (.head _) 6 _ rfl).1; have x7 := (H.boxcell (.head _) 7 _ rfl).1; have x8 := (H.boxcell (.head _) 8 _ rfl).1; have x9 := (H.boxcell (.head _) 9 _ rfl).1; have y0 := (H.boxcell (.tail _ (.tail _ (.head _))) 0 _ rfl).1; have y1 := (H.boxcell (.tail _ (.tail _ (.head _))) 1 _ rfl).1)
                | (go_at_call 50; refine (hcov.out _).mono ?_; rintro e W5 ⟨rfl, hm⟩; replace H := H.call hm; clear hm x0 x1 x2 x3 x4 x5 x6 x7 x8 x9 y0 y1; have x0 := (H.boxcell (.head _) 0 _ rfl).1; have x1 := (H.boxcell (.head _) 1 _ rfl).1; have x2 := (H.boxcell (.head _) 2 _ rfl).1; have x3 := (H.boxcell (.head _) 3 _ rfl).1; have x4 := (H.boxcell (.head _) 4 _ rfl).1; have x5 := (H.boxcell (.head _) 5 _ rfl).1; have x6 := (H.boxcell (.head _) 6 _ rfl).1; have x7 := (H.boxcell (.head _) 7 _ rfl).1; have x8 := (H.boxcell (.head _) 8 _ rfl).1; have x9 := (H.boxcell (.head _) 9 _ rfl).1; have y0 := (H.boxcell (.tail _ (.tail _ (.head _))) 0 _ rfl).1; have y1 := (H.boxcell (.tail _ (.tail _ (.head _))) 1 _ rfl).1)
                | (refine wp_stbox H rfl _ _ _ rfl 0 rfl _ rfl _ rfl (by kernel_rfl) rfl (Nat.le_of_ble_eq_true rfl) [.bool true, .int .u32 pa, .int .i64 pb, .int .u8 0, .int .u8 0, .bool drop, .int .u8 set, .int .u8 clr, .int .i64 more, .int .i64 pref] rfl ?_; clear H x0 x1 x2 x3 x4 x5 x6 x7 x8 x9 y0 y1; intro W2 H; have x0 := (H.boxcell (.head _) 0 _ rfl).1; have x1 := (H.boxcell (.head _) 1 _ rfl).1; have x2 := (H.boxcell (.head _) 2 _ rfl).1; have x3 := (H.boxcell (.head _) 3 _ rfl).1; have x4 := (H.boxcell (.head _) 4 _ rfl).1; have x5 := (H.boxcell (.head _) 5 _ rfl).1; have x6 := (H.boxcell (.head _) 6 _ rfl).1; have x7 := (H.boxcell (.head _) 7 _ rfl).1; have x8 := (H.boxcell (.head _) 8 _ rfl).1; have x9 := (H.boxcell (.head _) 9 _ rfl).1; have y0 := (H.boxcell (.tail _ (.tail _ (.head _))) 0 _ rfl).1; have y1 := (H.boxcell (.tail _ (.tail _ (.head _))) 1 _ rfl).1)
                | (refine wp_stbox H rfl _ _ _ rfl 1 rfl _ rfl _ rfl (by kernel_rfl) rfl (Nat.le_of_ble_eq_true rfl) [.bool true, .int .u32 0, .int .i64 0, .int .u8 0, .int .u8 0, .bool drop, .int .u8 set, .int .u8 clr, .int .i64 more, .int .i64 pref] rfl ?_; clear H x0 x1 x2 x3 x4 x5 x6 x7 x8 x9 y0 y1; intro W2 H; have x0 := (H.boxcell (.head _) 0 _ rfl).1; have x1 := (H.boxcell (.head _) 1 _ rfl).1; have x2 := (H.boxcell (.head _) 2 _ rfl).1; have x3 := (H.boxcell (.head _) 3 _ rfl).1; have x4 := (H.boxcell (.head _) 4 _ rfl).1; have x5 := (H.boxcell (.head _) 5 _ rfl).1; have x6 := (H.boxcell (.head _) 6 _ rfl).1; have x7 := (H.boxcell (.head _) 7 _ rfl).1; have x8 := (H.boxcell (.head _) 8 _ rfl).1; have x9 := (H.boxcell (.head _) 9 _ rfl).1; have y0 := (H.boxcell (.tail _ (.tail _ (.head _))) 0 _ rfl).1; have y1 := (H.boxcell (.tail _ (.tail _ (.head _))) 1 _ rfl).1)
                | ((with_reducible refine gate_dst (N := 30) rfl ?_); refine wp_append H.pull1 rfl _ _ _ _ 48 rfl Try.underlying49 info_cl3 rfl (by decide) (by decide) ⟨true, ⟨0, 0⟩, 0, 0, drop, set, clr, more, pref⟩ [.bool true, .int .u32 0, .int .i64 0, .int .u8 0, .int .u8 0, .bool drop, .int .u8 set, .int .u8 clr, .int .i64 more, .int .i64 pref] rfl rfl (fun _ _ => rfl) (by have := hacc.out.2; omega) ?_; clear H x0 x1 x2 x3 x4 x5 x6 x7 x8 x9 y0 y1; intro v1 W1 H; have x0 := (H.boxcell (.tail _ (.head _)) 0 _ rfl).1; have x1 := (H.boxcell (.tail _ (.head _)) 1 _ rfl).1; have x2 := (H.boxcell (.tail _ (.head _)) 2 _ rfl).1; have x3 := (H.boxcell (.tail _ (.head _)) 3 _ rfl).1; have x4 := (H.boxcell (.tail _ (.head _)) 4 _ rfl).1; have x5 := (H.boxcell (.tail _ (.head _)) 5 _ rfl).1; have x6 := (H.boxcell (.tail _ (.head _)) 6 _ rfl).1; have x7 := (H.boxcell (.tail _ (.head _)) 7 _ rfl).1; have x8 := (H.boxcell (.tail _ (.head _)) 8 _ rfl).1; have x9 := (H.boxcell (.tail _ (.head _)) 9 _ rfl).1))
              go_ret; exact ⟨_, rfl, by rw [hfin.out]; exact H.pull1.drop.pull1.drop⟩
            · have hnx : Hid (forB ⟨a, b⟩ cs = (acc ++ [⟨true, ⟨0, 0⟩, 0, out, drop, set, clr, more, pref⟩]) ++ forB ⟨a, b⟩ (cs.drop (k + 1))) := by rw [Hid, hacc.out.1]; simp [ho0]
              have ho1 : (out == 0) = false := by simpa using ho0
              go_wp2_with (first
                | ((with_reducible refine gate_dst (N := 13) rfl ?_); refine wp_ldcells [.bool false, .int .u32 pa, .int .i64 pb, .int .u8 0, .int .u8 out, .bool drop, .int .u8 set, .int .u8 clr, .int .i64 more, .int .i64 pref] hx.out rfl _ _ rfl rfl _ Try.underlying116 rfl (by kernel_rfl) ?_)
                | ((with_reducible refine gate_dst (N := 7) rfl ?_); refine wp_alloc H rfl _ rfl _ info_cl _ rfl ?_; clear H hx; intro gc W1 H)
                | (refine wp_stbox H rfl _ _ _ rfl 0 rfl _ rfl _ rfl (by kernel_rfl) rfl (Nat.le_of_ble_eq_true rfl) [.bool false, .int .u32 pa, .int .i64 pb, .int .u8 0, .int .u8 out, .bool drop, .int .u8 set, .int .u8 clr, .int .i64 more, .int .i64 pref] rfl ?_; clear H ; intro W2 H; have x0 := (H.boxcell (.head _) 0 _ rfl).1; have x1 := (H.boxcell (.head _) 1 _ rfl).1; have x2 := (H.boxcell (.head _) 2 _ rfl).1; have x3 := (H.boxcell (.head _) 3 _ rfl).1; have x4 := (H.boxcell (.head _) 4 _ rfl).1; have x5 := (H.boxcell (.head _) 5 _ rfl).1; have x6 := (H.boxcell (.head _) 6 _ rfl).1; have x7 := (H.boxcell (.head _) 7 _ rfl).1; have x8 := (H.boxcell (.head _) 8 _ rfl).1; have x9 := (H.boxcell (.head _) 9 _ rfl).1; have y0 := (H.boxcell (.tail _ (.tail _ (.head _))) 0 _ rfl).1; have y1 := (H.boxcell (.tail _ (.tail _ (.head _))) 1 _ rfl).1)
                | (go_at_call 50; refine (hcov.out _).mono ?_; rintro e W5 ⟨rfl, hm⟩; replace H := H.call hm; clear hm x0 x1 x2 x3 x4 x5 x6 x7 x8 x9 y0 y1; have x0 := (H.boxcell (.head _) 0 _ rfl).1; have x1 := (H.boxcell (.head _) 1 _ rfl).1; have x2 := (H.boxcell (.head _) 2 _ rfl).1; have x3 := (H.boxcell (.head _) 3 _ rfl).1; have x4 := (H.boxcell (.head _) 4 _ rfl).1; have x5 := (H.boxcell (.head _) 5 _ rfl).1; have x6 := (H.boxcell (.head _) 6 _ rfl).1; have x7 := (H.boxcell (.head _) 7 _ rfl).1; have x8 := (H.boxcell (.head _) 8 _ rfl).1; have x9 := (H.boxcell (.head _) 9 _ rfl).1; have y0 := (H.boxcell (.tail _ (.tail _ (.head _))) 0 _ rfl).1; have y1 := (H.boxcell (.tail _ (.tail _ (.head _))) 1 _ rfl).1)
                | (refine wp_stbox H rfl _ _ _ rfl 0 rfl _ rfl _ rfl (by kernel_rfl) rfl (Nat.le_of_ble_eq_true rfl) [.bool true, .int .u32 pa, .int .i64 pb, .int .u8 0, .int .u8 out, .bool drop, .int .u8 set, .int .u8 clr, .int .i64 more, .int .i64 pref] rfl ?_; clear H x0 x1 x2 x3 x4 x5 x6 x7 x8 x9 y0 y1; intro W2 H; have x0 := (H.boxcell (.head _) 0 _ rfl).1; have x1 := (H.boxcell (.head _) 1 _ rfl).1; have x2 := (H.boxcell (.head _) 2 _ rfl).1; have x3 := (H.boxcell (.head _) 3 _ rfl).1; have x4 := (H.boxcell (.head _) 4 _ rfl).1; have x5 := (H.boxcell (.head _) 5 _ rfl).1; have x6 := (H.boxcell (.head _) 6 _ rfl).1; have x7 := (H.boxcell (.head _) 7 _ rfl).1; have x8 := (H.boxcell (.head _) 8 _ rfl).1; have x9 := (H.boxcell (.head _) 9 _ rfl).1; have y0 := (H.boxcell (.tail _ (.tail _ (.head _))) 0 _ rfl).1; have y1 := (H.boxcell (.tail _ (.tail _ (.head _))) 1 _ rfl).1)
                | (refine wp_stbox H rfl _ _ _ rfl 1 rfl _ rfl _ rfl (by kernel_rfl) rfl (Nat.le_of_ble_eq_true rfl) [.bool true, .int .u32 0, .int .i64 0, .int .u8 0, .int .u8 out, .bool drop, .int .u8 set, .int .u8 clr, .int .i64 more, .int .i64 pref] rfl ?_; clear H x0 x1 x2 x3 x4 x5 x6 x7 x8 x9 y0 y1; intro W2 H; have x0 := (H.boxcell (.head _) 0 _ rfl).1; have x1 := (H.boxcell (.head _) 1 _ rfl).1; have x2 := (H.boxcell (.head _) 2 _ rfl).1; have x3 := (H.boxcell (.head _) 3 _ rfl).1; have x4 := (H.boxcell (.head _) 4 _ rfl).1; have x5 := (H.boxcell (.head _) 5 _ rfl).1; have x6 := (H.boxcell (.head _) 6 _ rfl).1; have x7 := (H.boxcell (.head _) 7 _ rfl).1; have x8 := (H.boxcell (.head _) 8 _ rfl).1; have x9 := (H.boxcell (.head _) 9 _ rfl).1; have y0 := (H.boxcell (.tail _ (.tail _ (.head _))) 0 _ rfl).1; have y1 := (H.boxcell (.tail _ (.tail _ (.head _))) 1 _ rfl).1)
                | ((with_reducible refine gate_dst (N := 30) rfl ?_); refine wp_append H.pull1 rfl _ _ _ _ 48 rfl Try.underlying49 info_cl3 rfl (by decide) (by decide) ⟨true, ⟨0, 0⟩, 0, out, drop, set, clr, more, pref⟩ [.bool true, .int .u32 0, .int .i64 0, .int .u8 0, .int .u8 out, .bool drop, .int .u8 set, .int .u8 clr, .int .i64 more, .int .i64 pref] rfl rfl (fun _ _ => rfl) (by have := hacc.out.2; omega) ?_; clear H x0 x1 x2 x3 x4 x5 x6 x7 x8 x9 y0 y1; intro v1 W1 H; have x0 := (H.boxcell (.tail _ (.head _)) 0 _ rfl).1; have x1 := (H.boxcell (.tail _ (.head _)) 1 _ rfl).1; have x2 := (H.boxcell (.tail _ (.head _)) 2 _ rfl).1; have x3 := (H.boxcell (.tail _ (.head _)) 3 _ rfl).1; have x4 := (H.boxcell (.tail _ (.head _)) 4 _ rfl).1; have x5 := (H.boxcell (.tail _ (.head _)) 5 _ rfl).1; have x6 := (H.boxcell (.tail _ (.head _)) 6 _ rfl).1; have x7 := (H.boxcell (.tail _ (.head _)) 7 _ rfl).1; have x8 := (H.boxcell (.tail _ (.head _)) 8 _ rfl).1; have x9 := (H.boxcell (.tail _ (.head _)) 9 _ rfl).1))
              go_roundw
              case rel => exact ⟨k + 1, _, by omega, by go_num, ⟨hnx.out, by have := hacc.out.2; simp; omega⟩, H.pull1.drop⟩
              case measure => simp [intOf]; omega
          · have hnx : Hid (forB ⟨a, b⟩ cs = (acc ++ [⟨true, ⟨0, 0⟩, wth, out, drop, set, clr, more, pref⟩]) ++ forB ⟨a, b⟩ (cs.drop (k + 1))) := by rw [Hid, hacc.out.1]; simp [hw0]
            have hw1 : (wth == 0) = false := by simpa using hw0
            go_wp2_with (first
              | ((with_reducible refine gate_dst (N := 13) rfl ?_); refine wp_ldcells [.bool false, .int .u32 pa, .int .i64 pb, .int .u8 wth, .int .u8 out, .bool drop, .int .u8 set, .int .u8 clr, .int .i64 more, .int .i64 pref] hx.out rfl _ _ rfl rfl _ Try.underlying116 rfl (by kernel_rfl) ?_)
              | ((with_reducible refine gate_dst (N := 7) rfl ?_); refine wp_alloc H rfl _ rfl _ info_cl _ rfl ?_; clear H hx; intro gc W1 H)
              | (refine wp_stbox H rfl _ _ _ rfl 0 rfl _ rfl _ rfl (by kernel_rfl) rfl (Nat.le_of_ble_eq_true rfl) [.bool false, .int .u32 pa, .int .i64 pb, .int .u8 wth, .int .u8 out, .bool drop, .int .u8 set, .int .u8 clr, .int .i64 more, .int .i64 pref] rfl ?_; clear H ; intro W2 H; have x0 := (H.boxcell (.head _) 0 _ rfl).1; have x1 := (H.boxcell (.head _) 1 _ rfl).1; have x2 := (H.boxcell (.head _) 2 _ rfl).1; have x3 := (H.boxcell (.head _) 3 _ rfl).1; have x4 := (H.boxcell (.head _) 4 _ rfl).1; have x5 := (H.boxcell (.head _) 5 _ rfl).1; have x6 := (H.boxcell (.head _) 6 _ rfl).1; have x7 := (H.boxcell (.head _) 7 _ rfl).1; have x8 := (H.boxcell (.head _) 8 _ rfl).1; have x9 := (H.boxcell (.head _) 9 _ rfl).1; have y0 := (H.boxcell (.tail _ (.tail _ (.head _))) 0 _ rfl).1; have y1 := (H.boxcell (.tail _ (.tail _ (.head _))) 1 _ rfl).1)
              | (go_at_call 50; refine (hcov.out _).mono ?_; rintro e W5 ⟨rfl, hm⟩; replace H := H.call hm; clear hm x0 x1 x2 x3 x4 x5 x6 x7 x8 x9 y0 y1; have x0 := (H.boxcell (.head _) 0 _ rfl).1; have x1 := (H.boxcell (.head _) 1 _ rfl).1; have x2 := (H.boxcell (.head _) 2 _ rfl).1; have x3 := (H.boxcell (.head _) 3 _ rfl).1; have x4 := (H.boxcell (.head _) 4 _ rfl).1; have x5 := (H.boxcell (.head _) 5 _ rfl).1; have x6 := (H.boxcell (.head _) 6 _ rfl).1; have x7 := (H.boxcell (.head _) 7 _ rfl).1; have x8 := (H.boxcell (.head _) 8 _ rfl).1; have x9 := (H.boxcell (.head _) 9 _ rfl).1; have y0 := (H.boxcell (.tail _ (.tail _ (.head _))) 0 _ rfl).1; have y1 := (H.boxcell (.tail _ (.tail _ (.head _))) 1 _ rfl).1)
              | (refine wp_stbox H rfl _ _ _ rfl 0 rfl _ rfl _ rfl (by kernel_rfl) rfl (Nat.le_of_ble_eq_true rfl) [.bool true, .int .u32 pa, .int .i64 pb, .int .u8 wth, .int .u8 out, .bool drop, .int .u8 set, .int .u8 clr, .int .i64 more, .int .i64 pref] rfl ?_; clear H x0 x1 x2 x3 x4 x5 x6 x7 x8 x9 y0 y1; intro W2 H; have x0 := (H.boxcell (.head _) 0 _ rfl).1; have x1 := (H.boxcell (.head _) 1 _ rfl).1; have x2 := (H.boxcell (.head _) 2 _ rfl).1; have x3 := (H.boxcell (.head _) 3 _ rfl).1; have x4 := (H.boxcell (.head _) 4 _ rfl).1; have x5 := (H.boxcell (.head _) 5 _ rfl).1; have x6 := (H.boxcell (.head _) 6 _ rfl).1; have x7 := (H.boxcell (.head _) 7 _ rfl).1; have x8 := (H.boxcell (.head _) 8 _ rfl).1; have x9 := (H.boxcell (.head _) 9 _ rfl).1; have y0 := (H.boxcell (.tail _ (.tail _ (.head _))) 0 _ rfl).1; have y1 := (H.boxcell (.tail _ (.tail _ (.head _))) 1 _ rfl).1)
              | (refine wp_stbox H rfl _ _ _ rfl 1 rfl _ rfl _ rfl (by kernel_rfl) rfl (Nat.le_of_ble_eq_true rfl) [.bool true, .int .u32 0, .int .i64 0, .int .u8 wth, .int .u8 out, .bool drop, .int .u8 set, .int .u8 clr, .int .i64 more, .int .i64 pref] rfl ?_; clear H x0 x1 x2 x3 x4 x5 x6 x7 x8 x9 y0 y1; intro W2 H; have x0 := (H.boxcell (.head _) 0 _ rfl).1; have x1 := (H.boxcell (.head _) 1 _ rfl).1; have x2 := (H.boxcell (.head _) 2 _ rfl).1; have x3 := (H.boxcell (.head _) 3 _ rfl).1; have x4 := (H.boxcell (.head _) 4 _ rfl).1; have x5 := (H.boxcell (.head _) 5 _ rfl).1; have x6 := (H.boxcell (.head _) 6 _ rfl).1; have x7 := (H.boxcell (.head _) 7 _ rfl).1; have x8 := (H.boxcell (.head _) 8 _ rfl).1; have x9 := (H.boxcell (.head _) 9 _ rfl).1; have y0 := (H.boxcell (.tail _ (.tail _ (.head _))) 0 _ rfl).1; have y1 := (H.boxcell (.tail _ (.tail _ (.head _))) 1 _ rfl).1)
              | ((with_reducible refine gate_dst (N := 30) rfl ?_); refine wp_append H.pull1 rfl _ _ _ _ 48 rfl Try.underlying49 info_cl3 rfl (by decide) (by decide) ⟨true, ⟨0, 0⟩, wth, out, drop, set, clr, more, pref⟩ [.bool true, .int .u32 0, .int .i64 0, .int .u8 wth, .int .u8 out, .bool drop, .int .u8 set, .int .u8 clr, .int .i64 more, .int .i64 pref] rfl rfl (fun _ _ => rfl) (by have := hacc.out.2; omega) ?_; clear H x0 x1 x2 x3 x4 x5 x6 x7 x8 x9 y0 y1; intro v1 W1 H; have x0 := (H.boxcell (.tail _ (.head _)) 0 _ rfl).1; have x1 := (H.boxcell (.tail _ (.head _)) 1 _ rfl).1; have x2 := (H.boxcell (.tail _ (.head _)) 2 _ rfl).1; have x3 := (H.boxcell (.tail _ (.head _)) 3 _ rfl).1; have x4 := (H.boxcell (.tail _ (.head _)) 4 _ rfl).1; have x5 := (H.boxcell (.tail _ (.head _)) 5 _ rfl).1; have x6 := (H.boxcell (.tail _ (.head _)) 6 _ rfl).1; have x7 := (H.boxcell (.tail _ (.head _)) 7 _ rfl).1; have x8 := (H.boxcell (.tail _ (.head _)) 8 _ rfl).1; have x9 := (H.boxcell (.tail _ (.head _)) 9 _ rfl).1))
            go_roundw
            case rel => exact ⟨k + 1, _, by omega, by go_num, ⟨hnx.out, by have := hacc.out.2; simp; omega⟩, H.pull1.drop⟩
            case measure => simp [intOf]; omega
      · skip
        have hacc := hide (show forB ⟨a, b⟩ cs = acc ++ ⟨true, ⟨0, 0⟩, wth, out, drop, set, clr, more, pref⟩ :: (if wth = 0 ∧ out = 0 then [] else forB ⟨a, b⟩ (cs.drop (k + 1))) ∧ acc.length ≤ k from hacc.out); by_cases hw0 : wth = 0
        · subst hw0
          by_cases ho0 : out = 0
          · subst ho0
            have hfin : Hid (forB ⟨a, b⟩ cs = acc ++ [⟨true, ⟨0, 0⟩, 0, 0, drop, set, clr, more, pref⟩]) := by rw [Hid, hacc.out.1]; simp
            go_wp2_with (first
              | ((with_reducible refine gate_dst (N := 13) rfl ?_); refine wp_ldcells [.bool true, .int .u32 pa, .int .i64 pb, .int .u8 0, .int .u8 0, .bool drop, .int .u8 set, .int .u8 clr, .int .i64 more, .int .i64 pref] hx.out rfl _ _ rfl rfl _ Try.underlying116 rfl (by kernel_rfl) ?_)
              | ((with_reducible refine gate_dst (N := 7) rfl ?_); refine wp_alloc H rfl _ rfl _ info_cl _ rfl ?_; clear H hx; intro gc W1 H)
              | (refine wp_stbox H rfl _ _ _ rfl 0 rfl _ rfl _ rfl (by kernel_rfl) rfl (Nat.le_of_ble_eq_true rfl) [.bool true, .int .u32 pa, .int .i64 pb, .int .u8 0, .int .u8 0, .bool drop, .int .u8 set, .int .u8 clr, .int .i64 more, .int .i64 pref] rfl ?_; clear H ; intro W2 H; have x0 := (H.boxcell (.head _) 0 _ rfl).1; have x1 := (H.boxcell (.head _) 1 _ rfl).1; have x2 := (H.boxcell (.head _) 2 _ rfl).1; have x3 := (H.boxcell (.head _) 3 _ rfl).1; have x4 := (H.boxcell (.head _) 4 _ rfl).1; have x5 := (H.boxcell (.head _) 5 _ rfl).1; have x6 := (H.boxcell (.head _) 6 _ rfl).1; have x7 := (H.boxcell (.head _) 7 _ rfl).1; have x8 := (H.boxcell (.head _) 8 _ rfl).1; have x9 := (H.boxcell (.head _) 9 _ rfl).1; have y0 := (H.boxcell (.tail _ (.tail _ (.head _))) 0 _ rfl).1; have y1 := (H.boxcell (.tail _ (.tail _ (.head _))) 1 _ rfl).1)
              | (refine wp_stbox H rfl _ _ _ rfl 1 rfl _ rfl _ rfl (by kernel_rfl) rfl (Nat.le_of_ble_eq_true rfl) [.bool true, .int .u32 0, .int .i64 0, .int .u8 0, .int .u8 0, .bool drop, .int .u8 set, .int .u8 clr, .int .i64 more, .int .i64 pref] rfl ?_; clear H x0 x1 x2 x3 x4 x5 x6 x7 x8 x9 y0 y1; intro W2 H; have x0 := (H.boxcell (.head _) 0 _ rfl).1; have x1 := (H.boxcell (.head _) 1 _ rfl).1; have x2 := (H.boxcell (.head _) 2 _ rfl).1; have x3 := (H.boxcell (.head _) 3 _ rfl).1; have x4 := (H.boxcell (.head _) 4 _ rfl).1; have x5 := (H.boxcell (.head _) 5 _ rfl).1; have x6 := (H.boxcell (.head _) 6 _ rfl).1; have x7 := (H.boxcell (.head _) 7 _ rfl).1; have x8 := (H.boxcell (.head _) 8 _ rfl).1; have x9 := (H.boxcell (.head _) 9 _ rfl).1; have y0 := (H.boxcell (.tail _ (.tail _ (.head _))) 0 _ rfl).1; have y1 := (H.boxcell (.tail _ (.tail _ (.head _))) 1 _ rfl).1)
              | ((with_reducible refine gate_dst (N := 30) rfl ?_); refine wp_append H.pull1 rfl _ _ _ _ 48 rfl Try.underlying49 info_cl3 rfl (by decide) (by decide) ⟨true, ⟨0, 0⟩, 0, 0, drop, set, clr, more, pref⟩ [.bool true, .int .u32 0, .int .i64 0, .int .u8 0, .int .u8 0, .bool drop, .int .u8 set, .int .u8 clr, .int .i64 more, .int .i64 pref] rfl rfl (fun _ _ => rfl) (by have := hacc.out.2; omega) ?_; clear H x0 x1 x2 x3 x4 x5 x6 x7 x8 x9 y0 y1; intro v1 W1 H; have x0 := (H.boxcell (.tail _ (.head _)) 0 _ rfl).1; have x1 := (H.boxcell (.tail _ (.head _)) 1 _ rfl).1; have x2 := (H.boxcell (.tail _ (.head _)) 2 _ rfl).1; have x3 := (H.boxcell (.tail _ (.head _)) 3 _ rfl).1; have x4 := (H.boxcell (.tail _ (.head _)) 4 _ rfl).1; have x5 := (H.boxcell (.tail _ (.head _)) 5 _ rfl).1; have x6 := (H.boxcell (.tail _ (.head _)) 6 _ rfl).1; have x7 := (H.boxcell (.tail _ (.head _)) 7 _ rfl).1; have x8 := (H.boxcell (.tail _ (.head _)) 8 _ rfl).1; have x9 := (H.boxcell (.tail _ (.head _)) 9 _ rfl).1))
            go_ret; exact ⟨_, rfl, by rw [hfin.out]; exact H.pull1.drop.pull1.drop⟩
          · have hnx : Hid (forB ⟨a, b⟩ cs = (acc ++ [⟨true, ⟨0, 0⟩, 0, out, drop, set, clr, more, pref⟩]) ++ forB ⟨a, b⟩ (cs.drop (k + 1))) := by rw [Hid, hacc.out.1]; simp [ho0]
            have ho1 : (out == 0) = false := by simpa using ho0
            go_wp2_with (first
              | ((with_reducible refine gate_dst (N := 13) rfl ?_); refine wp_ldcells [.bool true, .int .u32 pa, .int .i64 pb, .int .u8 0, .int .u8 out, .bool drop, .int .u8 set, .int .u8 clr, .int .i64 more, .int .i64 pref] hx.out rfl _ _ rfl rfl _ Try.underlying116 rfl (by kernel_rfl) ?_)
              | ((with_reducible refine gate_dst (N := 7) rfl ?_); refine wp_alloc H rfl _ rfl _ info_cl _ rfl ?_; clear H hx; intro gc W1 H)
              | (refine wp_stbox H rfl _ _ _ rfl 0 rfl _ rfl _ rfl (by kernel_rfl) rfl (Nat.le_of_ble_eq_true rfl) [.bool true, .int .u32 pa, .int .i64 pb, .int .u8 0, .int .u8 out, .bool drop, .int .u8 set, .int .u8 clr, .int .i64 more, .int .i64 pref] rfl ?_; clear H ; intro W2 H; have x0 := (H.boxcell (.head _) 0 _ rfl).1; have x1 := (H.boxcell (.head _) 1 _ rfl).1; have x2 := (H.boxcell (.head _) 2 _ rfl).1; have x3 := (H.boxcell (.head _) 3 _ rfl).1; have x4 := (H.boxcell (.head _) 4 _ rfl).1; have x5 := (H.boxcell (.head _) 5 _ rfl).1; have x6 := (H.boxcell (.head _) 6 _ rfl).1; have x7 := (H.boxcell (.head _) 7 _ rfl).1; have x8 := (H.boxcell (.head _) 8 _ rfl).1; have x9 := (H.boxcell (.head _) 9 _ rfl).1; have y0 := (H.boxcell (.tail _ (.tail _ (.head _))) 0 _ rfl).1; have y1 := (H.boxcell (.tail _ (.tail _ (.head _))) 1 _ rfl).1)
              | (refine wp_stbox H rfl _ _ _ rfl 1 rfl _ rfl _ rfl (by kernel_rfl) rfl (Nat.le_of_ble_eq_true rfl) [.bool true, .int .u32 0, .int .i64 0, .int .u8 0, .int .u8 out, .bool drop, .int .u8 set, .int .u8 clr, .int .i64 more, .int .i64 pref] rfl ?_; clear H x0 x1 x2 x3 x4 x5 x6 x7 x8 x9 y0 y1; intro W2 H; have x0 := (H.boxcell (.head _) 0 _ rfl).1; have x1 := (H.boxcell (.head _) 1 _ rfl).1; have x2 := (H.boxcell (.head _) 2 _ rfl).1; have x3 := (H.boxcell (.head _) 3 _ rfl).1; have x4 := (H.boxcell (.head _) 4 _ rfl).1; have x5 := (H.boxcell (.head _) 5 _ rfl).1; have x6 := (H.boxcell (.head _) 6 _ rfl).1; have x7 := (H.boxcell (.head _) 7 _ rfl).1; have x8 := (H.boxcell (.head _) 8 _ rfl).1; have x9 := (H.boxcell (.head _) 9 _ rfl).1; have y0 := (H.boxcell (.tail _ (.tail _ (.head _))) 0 _ rfl).1; have y1 := (H.boxcell (.tail _ (.tail _ (.head _))) 1 _ rfl).1)
              | ((with_reducible refine gate_dst (N := 30) rfl ?_); refine wp_append H.pull1 rfl _ _ _ _ 48 rfl Try.underlying49 info_cl3 rfl (by decide) (by decide) ⟨true, ⟨0, 0⟩, 0, out, drop, set, clr, more, pref⟩ [.bool true, .int .u32 0, .int .i64 0, .int .u8 0, .int .u8 out, .bool drop, .int .u8 set, .int .u8 clr, .int .i64 more, .int .i64 pref] rfl rfl (fun _ _ => rfl) (by have := hacc.out.2; omega) ?_; clear H x0 x1 x2 x3 x4 x5 x6 x7 x8 x9 y0 y1; intro v1 W1 H; have x0 := (H.boxcell (.tail _ (.head _)) 0 _ rfl).1; have x1 := (H.boxcell (.tail _ (.head _)) 1 _ rfl).1; have x2 := (H.boxcell (.tail _ (.head _)) 2 _ rfl).1; have x3 := (H.boxcell (.tail _ (.head _)) 3 _ rfl).1; have x4 := (H.boxcell (.tail _ (.head _)) 4 _ rfl).1; have x5 := (H.boxcell (.tail _ (.head _)) 5 _ rfl).1; have x6 := (H.boxcell (.tail _ (.head _)) 6 _ rfl).1; have x7 := (H.boxcell (.tail _ (.head _)) 7 _ rfl).1; have x8 := (H.boxcell (.tail _ (.head _)) 8 _ rfl).1; have x9 := (H.boxcell (.tail _ (.head _)) 9 _ rfl).1))
            go_roundw
            case rel => exact ⟨k + 1, _, by omega, by go_num, ⟨hnx.out, by have := hacc.out.2; simp; omega⟩, H.pull1.drop⟩
            case measure => simp [intOf]; omega
        · have hnx : Hid (forB ⟨a, b⟩ cs = (acc ++ [⟨true, ⟨0, 0⟩, wth, out, drop, set, clr, more, pref⟩]) ++ forB ⟨a, b⟩ (cs.drop (k + 1))) := by rw [Hid, hacc.out.1]; simp [hw0]
          have hw1 : (wth == 0) = false := by simpa using hw0
          go_wp2_with (first
            | ((with_reducible refine gate_dst (N := 13) rfl ?_); refine wp_ldcells [.bool true, .int .u32 pa, .int .i64 pb, .int .u8 wth, .int .u8 out, .bool drop, .int .u8 set, .int .u8 clr, .int .i64 more, .int .i64 pref] hx.out rfl _ _ rfl rfl _ Try.underlying116 rfl (by kernel_rfl) ?_)
            | ((with_reducible refine gate_dst (N := 7) rfl ?_); refine wp_alloc H rfl _ rfl _ info_cl _ rfl ?_; clear H hx; intro gc W1 H)
            | (refine wp_stbox H rfl _ _ _ rfl 0 rfl _ rfl _ rfl (by kernel_rfl) rfl (Nat.le_of_ble_eq_true rfl) [.bool true, .int .u32 pa, .int .i64 pb, .int .u8 wth, .int .u8 out, .bool drop, .int .u8 set, .int .u8 clr, .int .i64 more, .int .i64 pref] rfl ?_; clear H ; intro W2 H; have x0 := (H.boxcell (.head _) 0 _ rfl).1; have x1 := (H.boxcell (.head _) 1 _ rfl).1; have x2 := (H.boxcell (.head _) 2 _ rfl).1; have x3 := (H.boxcell (.head _) 3 _ rfl).1; have x4 := (H.boxcell (.head _) 4 _ rfl).1; have x5 := (H.boxcell (.head _) 5 _ rfl).1; have x6 := (H.boxcell (.head _) 6 _ rfl).1; have x7 := (H.boxcell (.head _) 7 _ rfl).1; have x8 := (H.boxcell (.head _) 8 _ rfl).1; have x9 := (H.boxcell (.head _) 9 _ rfl).1; have y0 := (H.boxcell (.tail _ (.tail _ (.head _))) 0 _ rfl).1; have y1 := (H.boxcell (.tail _ (.tail _ (.head _))) 1 _ rfl).1)
            | (refine wp_stbox H rfl _ _ _ rfl 1 rfl _ rfl _ rfl (by kernel_rfl) rfl (Nat.le_of_ble_eq_true rfl) [.bool true, .int .u32 0, .int .i64 0, .int .u8 wth, .int .u8 out, .bool drop, .int .u8 set, .int .u8 clr, .int .i64 more, .int .i64 pref] rfl ?_; clear H x0 x1 x2 x3 x4 x5 x6 x7 x8 x9 y0 y1; intro W2 H; have x0 := (H.boxcell (.head _) 0 _ rfl).1; have x1 := (H.boxcell (.head _) 1 _ rfl).1; have x2 := (H.boxcell (.head _) 2 _ rfl).1; have x3 := (H.boxcell (.head _) 3 _ rfl).1; have x4 := (H.boxcell (.head _) 4 _ rfl).1; have x5 := (H.boxcell (.head _) 5 _ rfl).1; have x6 := (H.boxcell (.head _) 6 _ rfl).1; have x7 := (H.boxcell (.head _) 7 _ rfl).1; have x8 := (H.boxcell (.head _) 8 _ rfl).1; have x9 := (H.boxcell (.head _) 9 _ rfl).1; have y0 := (H.boxcell (.tail _ (.tail _ (.head _))) 0 _ rfl).1; have y1 := (H.boxcell (.tail _ (.tail _ (.head _))) 1 _ rfl).1)
            | ((with_reducible refine gate_dst (N := 30) rfl ?_); refine wp_append H.pull1 rfl _ _ _ _ 48 rfl Try.underlying49 info_cl3 rfl (by decide) (by decide) ⟨true, ⟨0, 0⟩, wth, out, drop, set, clr, more, pref⟩ [.bool true, .int .u32 0, .int .i64 0, .int .u8 wth, .int .u8 out, .bool drop, .int .u8 set, .int .u8 clr, .int .i64 more, .int .i64 pref] rfl rfl (fun _ _ => rfl) (by have := hacc.out.2; omega) ?_; clear H x0 x1 x2 x3 x4 x5 x6 x7 x8 x9 y0 y1; intro v1 W1 H; have x0 := (H.boxcell (.tail _ (.head _)) 0 _ rfl).1; have x1 := (H.boxcell (.tail _ (.head _)) 1 _ rfl).1; have x2 := (H.boxcell (.tail _ (.head _)) 2 _ rfl).1; have x3 := (H.boxcell (.tail _ (.head _)) 3 _ rfl).1; have x4 := (H.boxcell (.tail _ (.head _)) 4 _ rfl).1; have x5 := (H.boxcell (.tail _ (.head _)) 5 _ rfl).1; have x6 := (H.boxcell (.tail _ (.head _)) 6 _ rfl).1; have x7 := (H.boxcell (.tail _ (.head _)) 7 _ rfl).1; have x8 := (H.boxcell (.tail _ (.head _)) 8 _ rfl).1; have x9 := (H.boxcell (.tail _ (.head _)) 9 _ rfl).1))
          go_roundw
          case rel => exact ⟨k + 1, _, by omega, by go_num, ⟨hnx.out, by have := hacc.out.2; simp; omega⟩, H.pull1.drop⟩
          case measure => simp [intOf]; omega
    · obtain rfl : k = cs.length := by omega
      (have hfin : Hid (forB ⟨a, b⟩ cs = acc) := by rw [Hid, hacc.out.1, List.drop_length]; exact List.append_nil _); go_wp2; go_ret; exact ⟨_, rfl, by rw [hfin.out]; exact H.pull1.drop⟩
end Go.Proofs.Ytcagkdgpoijkoaa.Cls
end
section
namespace Go.Proofs.Ytcagkdgpoijkoaa.Low
open Go.RowKit Go.Proofs.Ytcagkdgpoijkoaa.Mq Go.Proofs.Ytcagkdgpoijkoaa.Pfx Go.Proofs.Ytcagkdgpoijkoaa.Cls
set_option linter.unusedVariables false
set_option linter.unusedSimpArgs false
theorem oldcells {w W : World} {R l : List Asr} (H : Mem w W R l) {cs : List Value} {f : Nat → Addr} (h : ∀ (j : Nat) u, cs[j]? = some u → w.cell? (f j) = some u) : ∀ (j : Nat) u, cs[j]? = some u → W.cell? (f j) = some u :=
  fun j u hu => by rw [(MemM.below H).cell (block_lt_of_cell (h j u hu))]; exact h j u hu
theorem bs_list (a : Str) : (bs a).toList = a := by rw [ByteArray.toList_eq]; simp [bs]
attribute [local go_sem] bs_list
def clausesB (ms : List Mp) (name : Str) (to_ : Pf) : List Cl :=
  match ms.find? (fun m => m.name == name) with
  | some m => forB to_ m.clauses
  | none => []
theorem info_mp : (Try.prog.info? 86).map (·.zero) = some (some (.agg #[.string ByteArray.empty, .slice none 0 0, .int .i64 0])) := by kernel_rfl
set_option maxHeartbeats 4000000 in
set_option maxRecDepth 100000 in
theorem clauses_calls {w : World} {A0 : Option Addr} {ms : List Mp} {c0 : Nat} (h : Row mpR w (· < w.heap.size) A0 ms) (hcl : ∀ m ∈ ms, m.clauses.length ≤ 2000000000000) (rs : Value) (hrs : rs.oneCell' = true) (name : Str) (a b : Int) :
    Calls Try.prog 42 #[.agg #[.slice A0 ms.length c0, rs], .string (bs name), .agg #[.int .u32 a, .int .i64 b]] w fun e W => ∃ v, e = .returned v ∧ Mem w W [] [own clR 116 v (clausesB ms name ⟨a, b⟩)] := by
  have H := ((MemM.start w).box 70 [.slice A0 ms.length c0, rs]).box 35 [.int .u32 a, .int .i64 b]; have hl := h.len; unfold maxLen at hl; go_enter Try.func42, Try.ntmps42; go_wp2_with fail; (have e1 : (w.alloc (.cells #[.slice A0 ms.length c0, rs] 70)).heap.size = w.heap.size + 1 := by simp); rw [e1] at H; generalize w.heap.size = g at H ⊢; generalize (w.alloc (.cells #[.slice A0 ms.length c0, rs] 70)).alloc (.cells #[.int .u32 a, .int .i64 b] 35) = W at H ⊢; go_loopw [12] (fun v12 W => ∃ k : Nat, k ≤ ms.length ∧ v12 = .int .i64 k ∧ Hid (clausesB ms name ⟨a, b⟩ = clausesB (ms.drop k) name ⟨a, b⟩) ∧ Mem w W [] [box (g + 1) 35 [.int .u32 a, .int .i64 b], box g 70 [.slice A0 ms.length c0, rs]]) (fun v12 _ => ms.length - (intOf v12).toNat)
  case atStart => exact ⟨0, Nat.zero_le _, rfl, rfl, H⟩
  case round =>
    clear H; obtain ⟨k, hk, rfl, hacc, H⟩ := hrel; by_cases hlt : k < ms.length
    · obtain ⟨m, hm⟩ : ∃ m, ms[k]? = some m := ⟨_, List.getElem?_eq_getElem hlt⟩
      (have hd : ms.drop k = m :: ms.drop (k + 1) := by rw [List.drop_eq_getElem_cons hlt]; congr 1; rw [List.getElem?_eq_getElem hlt] at hm; injection hm); rw [hd] at hacc; clear hd; have hmc := hcl m (List.mem_of_getElem? hm); obtain ⟨ad, A1, n, rfl, hx, hrow⟩ := h.mp1 hm; have hx := hide (oldcells H hx); by_cases hn : m.name = name
      · have hfin : Hid (clausesB ms name ⟨a, b⟩ = forB ⟨a, b⟩ m.clauses) := by rw [Hid, hacc.out]; simp [clausesB, hn]
        go_wp2_with (first
          | ((with_reducible refine gate_dst (N := 15) rfl ?_); refine wp_ldcells [.string (bs m.name), .slice A1 m.clauses.length n, .int .i64 m.at_] hx.out rfl _ _ rfl rfl _ Try.underlying86 rfl (by kernel_rfl) ?_)
          | ((with_reducible refine gate_dst (N := 8) rfl ?_); refine wp_alloc H rfl _ rfl _ info_mp _ rfl ?_; clear H hx; intro gc W1 H)
          | (refine wp_stbox H rfl _ _ _ rfl 0 rfl _ rfl _ rfl (by kernel_rfl) rfl (Nat.le_of_ble_eq_true rfl) [.string (bs m.name), .slice A1 m.clauses.length n, .int .i64 m.at_] rfl ?_; clear H; intro W2 H; have x0 := (H.boxcell (.head _) 0 _ rfl).1; have x1 := (H.boxcell (.head _) 1 _ rfl).1; have x2 := (H.boxcell (.head _) 2 _ rfl).1; have y0 := (H.boxcell (.tail _ (.head _)) 0 _ rfl).1; have y1 := (H.boxcell (.tail _ (.head _)) 1 _ rfl).1)
          | (go_at_call 51; refine (for_calls (H.arg hrow) hmc a b).mono ?_; rintro e W3 ⟨v, rfl, hm⟩; replace H := H.call hm))
        go_ret; exact ⟨_, rfl, by rw [hfin.out]; exact H.pull1.drop.pull1.drop.pull1.drop⟩
      · have hnx : Hid (clausesB ms name ⟨a, b⟩ = clausesB (ms.drop (k + 1)) name ⟨a, b⟩) := by rw [Hid, hacc.out]; simp [clausesB, hn]
        have hb1 : (m.name == name) = false := by simpa using hn
        go_wp2_with (first
          | ((with_reducible refine gate_dst (N := 15) rfl ?_); refine wp_ldcells [.string (bs m.name), .slice A1 m.clauses.length n, .int .i64 m.at_] hx.out rfl _ _ rfl rfl _ Try.underlying86 rfl (by kernel_rfl) ?_)
          | ((with_reducible refine gate_dst (N := 8) rfl ?_); refine wp_alloc H rfl _ rfl _ info_mp _ rfl ?_; clear H hx; intro gc W1 H)
          | (refine wp_stbox H rfl _ _ _ rfl 0 rfl _ rfl _ rfl (by kernel_rfl) rfl (Nat.le_of_ble_eq_true rfl) [.string (bs m.name), .slice A1 m.clauses.length n, .int .i64 m.at_] rfl ?_; clear H; intro W2 H; have x0 := (H.boxcell (.head _) 0 _ rfl).1; have x1 := (H.boxcell (.head _) 1 _ rfl).1; have x2 := (H.boxcell (.head _) 2 _ rfl).1; have y0 := (H.boxcell (.tail _ (.head _)) 0 _ rfl).1; have y1 := (H.boxcell (.tail _ (.head _)) 1 _ rfl).1))
        go_roundw
        case rel => exact ⟨k + 1, by omega, by go_num, hnx, H.drop⟩
        case measure => simp [intOf]; omega
    · obtain rfl : k = ms.length := by omega
      (have hfin : Hid (clausesB ms name ⟨a, b⟩ = []) := by rw [Hid, hacc.out, List.drop_length]; rfl); go_wp2; go_ret; exact ⟨_, rfl, by rw [hfin.out]; exact (H.drop.drop).nilItem _ _⟩
end Go.Proofs.Ytcagkdgpoijkoaa.Low
end
section
namespace Go.Proofs.Ytcagkdgpoijkoaa.Low
open Go.RowKit Go.Proofs.Ytcagkdgpoijkoaa.Mq Go.Proofs.Ytcagkdgpoijkoaa.Pfx Go.Proofs.Ytcagkdgpoijkoaa.Cls
set_option linter.unusedVariables false
set_option linter.unusedSimpArgs false
attribute [local go_sem] bs_list
def lk0 : Lk := ⟨[], 0, [], [], 0⟩
def peerB (ls : List Lk) (name : Str) : Option Lk := ls.find? (fun l => l.peer == name)
theorem info_lk : (Try.prog.info? 95).map (·.zero) = some (some (.agg #[.string ByteArray.empty, .int .i64 0, .string ByteArray.empty, .string ByteArray.empty, .int .i64 0])) := by kernel_rfl
theorem info_wy : (Try.prog.info? 97).map (·.zero) = some (some (.agg #[.int .u32 0, .int .i64 0, .string ByteArray.empty, .int .i64 0])) := by kernel_rfl
set_option maxHeartbeats 4000000 in
set_option maxRecDepth 100000 in
theorem peer_calls {w : World} {A2 : Option Addr} {ls : List Lk} {n2 : Nat} (h : Row lkR w (· < w.heap.size) A2 ls) (v0 v1 v3 v4 : Value) (name : Str) :
    Calls Try.prog 41 #[.agg #[v0, v1, .slice A2 ls.length n2, v3, v4], .string (bs name)] w fun e W => e = .returned (.tuple #[.agg ((peerB ls name).getD lk0).enc.toArray, .bool (peerB ls name).isSome]) ∧ Mem w W [] [] := by
  have H := (MemM.start w).box 91 [v0, v1, .slice A2 ls.length n2, v3, v4]; have hl := h.len; unfold maxLen at hl; go_enter Try.func41, Try.ntmps41; go_wp2_with fail; have H := H.box 95 [.string (bs []), .int .i64 0, .string (bs []), .string (bs []), .int .i64 0]; (have e1 : (w.alloc (.cells #[v0, v1, .slice A2 ls.length n2, v3, v4] 91)).heap.size = w.heap.size + 1 := by simp); rw [e1] at H; obtain ⟨W, hW⟩ : ∃ W, (w.alloc (.cells #[v0, v1, .slice A2 ls.length n2, v3, v4] 91)).alloc (.cells [.string (bs []), .int .i64 0, .string (bs []), .string (bs []), .int .i64 0].toArray 95) = W := ⟨_, rfl⟩; rw [hW] at H; change Code.wp _ _ _ _ ((w.alloc (.cells #[v0, v1, .slice A2 ls.length n2, v3, v4] 91)).alloc (.cells [.string (bs []), .int .i64 0, .string (bs []), .string (bs []), .int .i64 0].toArray 95)); rw [hW]; clear hW e1; generalize w.heap.size = g at H ⊢; go_loopw [11] (fun v11 W => ∃ k : Nat, k ≤ ls.length ∧ v11 = .int .i64 k ∧ Hid (peerB ls name = peerB (ls.drop k) name) ∧ Mem w W [] [box (g + 1) 95 [.string (bs []), .int .i64 0, .string (bs []), .string (bs []), .int .i64 0], box g 91 [v0, v1, .slice A2 ls.length n2, v3, v4]]) (fun v11 _ => ls.length - (intOf v11).toNat)
  case atStart => exact ⟨0, Nat.zero_le _, rfl, rfl, H⟩
  case round =>
    clear H; obtain ⟨k, hk, rfl, hacc, H⟩ := hrel; by_cases hlt : k < ls.length
    · obtain ⟨l, hl⟩ : ∃ l, ls[k]? = some l := ⟨_, List.getElem?_eq_getElem hlt⟩
      (have hd : ls.drop k = l :: ls.drop (k + 1) := by rw [List.drop_eq_getElem_cons hlt]; congr 1; rw [List.getElem?_eq_getElem hlt] at hl; injection hl); rw [hd] at hacc; clear hd; obtain ⟨ad, rfl, hx⟩ := h.flat1 hl; have hx := hide (oldcells H hx); obtain ⟨peer, cost, imp, exp, at1⟩ := l; by_cases hn : peer = name
      · subst hn
        have hfin : Hid (peerB ls peer = some ⟨peer, cost, imp, exp, at1⟩) := by rw [Hid, hacc.out]; simp [peerB]
        go_wp2_with (first
          | ((with_reducible refine gate_dst (N := 14) rfl ?_); refine wp_ldcells [.string (bs peer), .int .i64 cost, .string (bs imp), .string (bs exp), .int .i64 at1] hx.out rfl _ _ rfl rfl _ Try.underlying95 rfl (by kernel_rfl) ?_)
          | ((with_reducible refine gate_dst (N := 7) rfl ?_); refine wp_alloc H rfl _ rfl _ info_lk _ rfl ?_; clear H hx; intro gc W1 H)
          | (refine wp_stbox H rfl _ _ _ rfl 0 rfl _ rfl _ rfl (by kernel_rfl) rfl (Nat.le_of_ble_eq_true rfl) [.string (bs peer), .int .i64 cost, .string (bs imp), .string (bs exp), .int .i64 at1] rfl ?_; clear H; intro W2 H; have x0 := (H.boxcell (.head _) 0 _ rfl).1; have x1 := (H.boxcell (.head _) 1 _ rfl).1; have x2 := (H.boxcell (.head _) 2 _ rfl).1; have x3 := (H.boxcell (.head _) 3 _ rfl).1; have x4 := (H.boxcell (.head _) 4 _ rfl).1)
          | (refine wp_stbox H.pull1 rfl _ _ _ rfl 0 rfl _ rfl _ rfl (by kernel_rfl) rfl (Nat.le_of_ble_eq_true rfl) [.string (bs peer), .int .i64 cost, .string (bs imp), .string (bs exp), .int .i64 at1] rfl ?_; clear H x0 x1 x2 x3 x4; intro W3 H; have x0 := (H.boxcell (.head _) 0 _ rfl).1; have x1 := (H.boxcell (.head _) 1 _ rfl).1; have x2 := (H.boxcell (.head _) 2 _ rfl).1; have x3 := (H.boxcell (.head _) 3 _ rfl).1; have x4 := (H.boxcell (.head _) 4 _ rfl).1))
        exact bodyPost_ret (v := .tuple #[.agg #[.string (bs peer), .int .i64 cost, .string (bs imp), .string (bs exp), .int .i64 at1], .bool true]) (by simp [results, Try.results41, go_sem, x0, x1, x2, x3, x4]) rfl ⟨by rw [hfin.out]; rfl, H.drop.drop.drop⟩
      · have hnx : Hid (peerB ls name = peerB (ls.drop (k + 1)) name) := by rw [Hid, hacc.out]; simp [peerB, hn]
        have hb1 : (peer == name) = false := by simpa using hn
        go_wp2_with (first
          | ((with_reducible refine gate_dst (N := 14) rfl ?_); refine wp_ldcells [.string (bs peer), .int .i64 cost, .string (bs imp), .string (bs exp), .int .i64 at1] hx.out rfl _ _ rfl rfl _ Try.underlying95 rfl (by kernel_rfl) ?_)
          | ((with_reducible refine gate_dst (N := 7) rfl ?_); refine wp_alloc H rfl _ rfl _ info_lk _ rfl ?_; clear H hx; intro gc W1 H)
          | (refine wp_stbox H rfl _ _ _ rfl 0 rfl _ rfl _ rfl (by kernel_rfl) rfl (Nat.le_of_ble_eq_true rfl) [.string (bs peer), .int .i64 cost, .string (bs imp), .string (bs exp), .int .i64 at1] rfl ?_; clear H; intro W2 H; have x0 := (H.boxcell (.head _) 0 _ rfl).1; have x1 := (H.boxcell (.head _) 1 _ rfl).1; have x2 := (H.boxcell (.head _) 2 _ rfl).1; have x3 := (H.boxcell (.head _) 3 _ rfl).1; have x4 := (H.boxcell (.head _) 4 _ rfl).1))
        go_roundw
        case rel => exact ⟨k + 1, by omega, by go_num, hnx, H.drop⟩
        case measure => simp [intOf]; omega
    · obtain rfl : k = ls.length := by omega
      have hfin : Hid (peerB ls name = none) := by rw [Hid, hacc.out, List.drop_length]; rfl
      go_wp2_with (first
        | (refine wp_stbox H rfl _ _ _ rfl 0 rfl _ rfl _ rfl (by kernel_rfl) rfl (Nat.le_of_ble_eq_true rfl) [.string (bs []), .int .i64 0, .string (bs []), .string (bs []), .int .i64 0] rfl ?_; clear H; intro W2 H; have x0 := (H.boxcell (.head _) 0 _ rfl).1; have x1 := (H.boxcell (.head _) 1 _ rfl).1; have x2 := (H.boxcell (.head _) 2 _ rfl).1; have x3 := (H.boxcell (.head _) 3 _ rfl).1; have x4 := (H.boxcell (.head _) 4 _ rfl).1))
      exact bodyPost_ret (v := .tuple #[.agg #[.string (bs []), .int .i64 0, .string (bs []), .string (bs []), .int .i64 0], .bool false]) (by simp [results, Try.results41, go_sem, x0, x1, x2, x3, x4]) rfl ⟨by rw [hfin.out]; rfl, H.drop.drop⟩
def staticS (to_ : Pf) (s : Str × Int) (w : Wy) : Str × Int := if coversB w.pre to_ && decide (s.2 < w.pre.bits) then (w.via, w.pre.bits) else s
def staticB (to_ : Pf) (ws : List Wy) : Str × Int := ws.foldl (staticS to_) ([], -1)
theorem take_foldl {α β : Type} (f : β → α → β) (b : β) (l : List α) (k : Nat) (x : α) (hx : l[k]? = some x) : (l.take (k + 1)).foldl f b = f ((l.take k).foldl f b) x := by
  obtain ⟨hj, rfl⟩ := List.getElem?_eq_some_iff.1 hx; rw [List.take_succ_eq_append_getElem hj, List.foldl_append]; rfl
set_option maxHeartbeats 4000000 in
set_option maxRecDepth 100000 in
theorem static_calls {w : World} {A3 : Option Addr} {ws : List Wy} {n3 : Nat} (h : Row wyR w (· < w.heap.size) A3 ws) (v0 v1 v2 v4 : Value) (a b : Int) :
    Calls Try.prog 40 #[.agg #[v0, v1, v2, .slice A3 ws.length n3, v4], .agg #[.int .u32 a, .int .i64 b]] w fun e W => e = .returned (.tuple #[.string (bs (staticB ⟨a, b⟩ ws).1), .bool (decide (0 ≤ (staticB ⟨a, b⟩ ws).2))]) ∧ Mem w W [] [] := by
  have H := ((MemM.start w).box 91 [v0, v1, v2, .slice A3 ws.length n3, v4]).box 35 [.int .u32 a, .int .i64 b]; have hl := h.len; unfold maxLen at hl; go_enter Try.func40, Try.ntmps40; go_wp2_with fail; (have e1 : (w.alloc (.cells #[v0, v1, v2, .slice A3 ws.length n3, v4] 91)).heap.size = w.heap.size + 1 := by simp); rw [e1] at H; generalize w.heap.size = g at H ⊢; generalize (w.alloc (.cells #[v0, v1, v2, .slice A3 ws.length n3, v4] 91)).alloc (.cells #[.int .u32 a, .int .i64 b] 35) = W at H ⊢; go_loopw [6, 7, 13] (fun v6 v7 v13 W => ∃ k : Nat, k ≤ ws.length ∧ v13 = .int .i64 k ∧ v6 = .string (bs ((ws.take k).foldl (staticS ⟨a, b⟩) ([], -1)).1) ∧ v7 = .int .i64 ((ws.take k).foldl (staticS ⟨a, b⟩) ([], -1)).2 ∧ Mem w W [] [box (g + 1) 35 [.int .u32 a, .int .i64 b], box g 91 [v0, v1, v2, .slice A3 ws.length n3, v4]]) (fun _ _ v13 _ => ws.length - (intOf v13).toNat)
  case atStart => exact ⟨0, Nat.zero_le _, rfl, rfl, rfl, H⟩
  case round =>
    clear H; obtain ⟨k, hk, rfl, rfl, rfl, H⟩ := hrel; by_cases hlt : k < ws.length
    · obtain ⟨l, hl⟩ : ∃ l, ws[k]? = some l := ⟨_, List.getElem?_eq_getElem hlt⟩
      have hst := hide (take_foldl (staticS ⟨a, b⟩) ([], -1) ws k l hl); obtain ⟨ad, rfl, hx⟩ := h.flat1 hl; have hx := hide (oldcells H hx); generalize (ws.take k).foldl (staticS ⟨a, b⟩) ([], -1) = s at hst ⊢; obtain ⟨⟨pa, pb⟩, via, at1⟩ := l; obtain ⟨sv, sb⟩ := s; (have hcov : Hid (∀ W, Calls Try.prog 50 #[.agg #[.int .u32 pa, .int .i64 pb], .agg #[.int .u32 a, .int .i64 b]] W fun e W' => e = .returned (.bool (coversB ⟨pa, pb⟩ ⟨a, b⟩)) ∧ Mem W W' [] []) := fun W => covers_calls pa pb a b); have hst := hide (show (ws.take (k + 1)).foldl (staticS ⟨a, b⟩) ([], -1) = if coversB ⟨pa, pb⟩ ⟨a, b⟩ && decide (sb < pb) then (via, pb) else (sv, sb) from hst.out); generalize coversB ⟨pa, pb⟩ ⟨a, b⟩ = m at hcov hst; simp only; cases m
      · have hst := hide (show (ws.take (k + 1)).foldl (staticS ⟨a, b⟩) ([], -1) = (sv, sb) from hst.out)
        go_wp2_with (first
          | ((with_reducible refine gate_dst (N := 16) rfl ?_); refine wp_ldcells [.int .u32 pa, .int .i64 pb, .string (bs via), .int .i64 at1] hx.out rfl _ _ rfl rfl _ Try.underlying97 rfl (by kernel_rfl) ?_)
          | ((with_reducible refine gate_dst (N := 9) rfl ?_); refine wp_alloc H rfl _ rfl _ info_wy _ rfl ?_; clear H hx; intro gc W1 H)
          | (refine wp_stbox H rfl _ _ _ rfl 0 rfl _ rfl _ rfl (by kernel_rfl) rfl (Nat.le_of_ble_eq_true rfl) [.int .u32 pa, .int .i64 pb, .string (bs via), .int .i64 at1] rfl ?_; clear H; intro W2 H; have x0 := (H.boxcell (.head _) 0 _ rfl).1; have x1 := (H.boxcell (.head _) 1 _ rfl).1; have x2 := (H.boxcell (.head _) 2 _ rfl).1; have x3 := (H.boxcell (.head _) 3 _ rfl).1; have y0 := (H.boxcell (.tail _ (.head _)) 0 _ rfl).1; have y1 := (H.boxcell (.tail _ (.head _)) 1 _ rfl).1)
          | (go_at_call 50; refine (hcov.out _).mono ?_; rintro e W5 ⟨rfl, hm⟩; replace H := H.call hm; clear hm x0 x1 x2 x3 y0 y1; have x0 := (H.boxcell (.head _) 0 _ rfl).1; have x1 := (H.boxcell (.head _) 1 _ rfl).1; have x2 := (H.boxcell (.head _) 2 _ rfl).1; have x3 := (H.boxcell (.head _) 3 _ rfl).1; have y0 := (H.boxcell (.tail _ (.head _)) 0 _ rfl).1; have y1 := (H.boxcell (.tail _ (.head _)) 1 _ rfl).1))
        go_roundw
        case rel => exact ⟨k + 1, by omega, by go_num, by rw [hst.out], by rw [hst.out], H.drop⟩
        case measure => simp [intOf]; omega
      · by_cases hlt2 : sb < pb
        · have hst := hide (show (ws.take (k + 1)).foldl (staticS ⟨a, b⟩) ([], -1) = (via, pb) from by rw [hst.out]; simp [hlt2])
          go_wp2_with (first
          | ((with_reducible refine gate_dst (N := 16) rfl ?_); refine wp_ldcells [.int .u32 pa, .int .i64 pb, .string (bs via), .int .i64 at1] hx.out rfl _ _ rfl rfl _ Try.underlying97 rfl (by kernel_rfl) ?_)
          | ((with_reducible refine gate_dst (N := 9) rfl ?_); refine wp_alloc H rfl _ rfl _ info_wy _ rfl ?_; clear H hx; intro gc W1 H)
          | (refine wp_stbox H rfl _ _ _ rfl 0 rfl _ rfl _ rfl (by kernel_rfl) rfl (Nat.le_of_ble_eq_true rfl) [.int .u32 pa, .int .i64 pb, .string (bs via), .int .i64 at1] rfl ?_; clear H; intro W2 H; have x0 := (H.boxcell (.head _) 0 _ rfl).1; have x1 := (H.boxcell (.head _) 1 _ rfl).1; have x2 := (H.boxcell (.head _) 2 _ rfl).1; have x3 := (H.boxcell (.head _) 3 _ rfl).1; have y0 := (H.boxcell (.tail _ (.head _)) 0 _ rfl).1; have y1 := (H.boxcell (.tail _ (.head _)) 1 _ rfl).1)
          | (go_at_call 50; refine (hcov.out _).mono ?_; rintro e W5 ⟨rfl, hm⟩; replace H := H.call hm; clear hm x0 x1 x2 x3 y0 y1; have x0 := (H.boxcell (.head _) 0 _ rfl).1; have x1 := (H.boxcell (.head _) 1 _ rfl).1; have x2 := (H.boxcell (.head _) 2 _ rfl).1; have x3 := (H.boxcell (.head _) 3 _ rfl).1; have y0 := (H.boxcell (.tail _ (.head _)) 0 _ rfl).1; have y1 := (H.boxcell (.tail _ (.head _)) 1 _ rfl).1))
          go_quiet (fail); go_wp2; go_roundw
          case rel => exact ⟨k + 1, by omega, by go_num, by rw [hst.out], by rw [hst.out], (H.drewN _).drop⟩
          case measure => simp [intOf]; omega
        · have hst := hide (show (ws.take (k + 1)).foldl (staticS ⟨a, b⟩) ([], -1) = (sv, sb) from by rw [hst.out]; simp [hlt2])
          go_wp2_with (first
          | ((with_reducible refine gate_dst (N := 16) rfl ?_); refine wp_ldcells [.int .u32 pa, .int .i64 pb, .string (bs via), .int .i64 at1] hx.out rfl _ _ rfl rfl _ Try.underlying97 rfl (by kernel_rfl) ?_)
          | ((with_reducible refine gate_dst (N := 9) rfl ?_); refine wp_alloc H rfl _ rfl _ info_wy _ rfl ?_; clear H hx; intro gc W1 H)
          | (refine wp_stbox H rfl _ _ _ rfl 0 rfl _ rfl _ rfl (by kernel_rfl) rfl (Nat.le_of_ble_eq_true rfl) [.int .u32 pa, .int .i64 pb, .string (bs via), .int .i64 at1] rfl ?_; clear H; intro W2 H; have x0 := (H.boxcell (.head _) 0 _ rfl).1; have x1 := (H.boxcell (.head _) 1 _ rfl).1; have x2 := (H.boxcell (.head _) 2 _ rfl).1; have x3 := (H.boxcell (.head _) 3 _ rfl).1; have y0 := (H.boxcell (.tail _ (.head _)) 0 _ rfl).1; have y1 := (H.boxcell (.tail _ (.head _)) 1 _ rfl).1)
          | (go_at_call 50; refine (hcov.out _).mono ?_; rintro e W5 ⟨rfl, hm⟩; replace H := H.call hm; clear hm x0 x1 x2 x3 y0 y1; have x0 := (H.boxcell (.head _) 0 _ rfl).1; have x1 := (H.boxcell (.head _) 1 _ rfl).1; have x2 := (H.boxcell (.head _) 2 _ rfl).1; have x3 := (H.boxcell (.head _) 3 _ rfl).1; have y0 := (H.boxcell (.tail _ (.head _)) 0 _ rfl).1; have y1 := (H.boxcell (.tail _ (.head _)) 1 _ rfl).1))
          go_roundw
          case rel => exact ⟨k + 1, by omega, by go_num, by rw [hst.out], by rw [hst.out], H.drop⟩
          case measure => simp [intOf]; omega
    · obtain rfl : k = ws.length := by omega
      rw [List.take_length]; have hfin : Hid (staticB ⟨a, b⟩ ws = ws.foldl (staticS ⟨a, b⟩) ([], -1)) := rfl; generalize ws.foldl (staticS ⟨a, b⟩) ([], -1) = s at hfin ⊢; obtain ⟨sv, sb⟩ := s; simp only; go_wp2; go_ret2; exact ⟨by rw [hfin.out]; rfl, H.drop.drop⟩
end Go.Proofs.Ytcagkdgpoijkoaa.Low
end
section
namespace Go.Proofs.Ytcagkdgpoijkoaa.Map
open Go.RowKit Go.Proofs.Ytcagkdgpoijkoaa.Mq
set_option linter.unusedVariables false
set_option linter.unusedSectionVars false
set_option linter.unusedSimpArgs false
def upd {κ β : Type} [DecidableEq κ] (f : κ → Option β) (x : κ) (y : β) : κ → Option β := fun z => if z = x then some y else f z
theorem upd_self {κ β : Type} [DecidableEq κ] (f : κ → Option β) (x : κ) (y : β) : upd f x y x = some y := by simp [upd]
theorem upd_ne {κ β : Type} [DecidableEq κ] (f : κ → Option β) {x z : κ} (y : β) (h : z ≠ x) : upd f x y z = f z := by simp [upd, h]
structure KeyOf (P : Program) (k : TypeId) {κ : Type} (ke : κ → Value) (okk : κ → Prop) : Prop where
  law : Go.Maps.Keyed P k
  tells : ∀ x, okk x → ∃ l, keyOf P k (ke x) = some l
  inj : ∀ x y, ke x = ke y → x = y
def MapIs {κ β : Type} (ke : κ → Value) (ve : β → Value) (okk : κ → Prop) (w : World) (g n : Nat) (f : κ → Option β) : Prop :=
  ∃ (es : Array MapEntry) (clock : Nat), w.heap[g]? = some (.map es clock) ∧ es.size = n ∧ (es.toList.map (·.key)).Nodup ∧ (∀ e ∈ es.toList, ∃ x y, okk x ∧ e.key = ke x ∧ e.val = ve y ∧ f x = some y) ∧ ∀ x y, f x = some y → ∃ e ∈ es.toList, e.key = ke x ∧ e.val = ve y
def mapOf {κ β : Type} (ke : κ → Value) (ve : β → Value) (okk : κ → Prop) (g n : Nat) (f : κ → Option β) : Asr where
  P := fun w _ S => S g ∧ MapIs ke ve okk w g n f
  mono := fun _ hS h => ⟨hS _ h.1, h.2⟩
  move := fun hm ⟨h1, es, c, h2, h3⟩ => ⟨h1, es, c, (hm _ (.inr h1)).trans h2, h3⟩
  bound := fun h => ⟨⟨h.1, by
    obtain ⟨_, es, c, h2, _⟩ := h
    rcases Nat.lt_or_ge g _ with h1 | h1
    · exact h1
    · rw [Array.getElem?_eq_none h1] at h2; cases h2⟩, h.2⟩
  join := fun _ h => ⟨.inr h.1, h.2⟩
section
variable {P : Program} {k t e : TypeId} {κ β : Type} [DecidableEq κ] {ke : κ → Value} {ve : β → Value} {okk : κ → Prop} {w : World} {g n : Nat} {f : κ → Option β}
theorem MapIs.empty (w : World) : MapIs ke ve okk (w.alloc (.map #[] 0)) w.heap.size 0 (fun _ => none) :=
  ⟨#[], 0, heap_alloc_new w _, rfl, by simp, by simp, by simp⟩
theorem MapIs.found (K : KeyOf P k ke okk) (h : MapIs ke ve okk w g n f) {x : κ} (hx : okk x) : ∃ (es : Array MapEntry) (clock : Nat), w.heap[g]? = some (.map es clock) ∧ (∀ em, (Instr.checkKey em 10000 k (ke x)).run P w = .ok () w) ∧
    ((f x = none ∧ (Instr.findKey k (ke x) es.toList).run P w = .ok none w) ∨ ∃ j y, f x = some y ∧ (Instr.findKey k (ke x) es.toList).run P w = .ok (some (j, ve y)) w) := by
  obtain ⟨es, clock, h1, h2, h3, h4, h5⟩ := h
  obtain ⟨lx, hlx⟩ := K.tells x hx
  refine ⟨es, clock, h1, fun em => K.law.check w em hlx, ?_⟩
  rcases K.law.find w hlx es.toList (fun e he => by
    obtain ⟨x', y, ho, hk, _⟩ := h4 e he
    rw [hk]; exact K.tells x' ho) with ⟨h6, h7⟩ | ⟨j, e', h6, h7, h8⟩
  · refine .inl ⟨?_, h6⟩
    cases hf : f x with
    | none => rfl
    | some y => obtain ⟨e, he, hk, _⟩ := h5 x y hf; exact absurd hk (h7 e he)
  · obtain ⟨x', y, ho, hk, hv, hf⟩ := h4 e' (List.mem_of_getElem? h7)
    have := K.inj _ _ (hk.symm.trans h8)
    subst this
    exact .inr ⟨j, y, hf, by rw [← hv]; exact h6⟩
theorem MapIs.lookup (K : KeyOf P k ke okk) (ht : P.underlying t = some (.map k e)) (h : MapIs ke ve okk w g n f) {x : κ} (hx : okk x) {z : Value} (hz : (zeroValue e).run P w = .ok z w) (ok : Bool) :
    (Instr.lookup t (.map (some g)) (ke x) ok).run P w = .ok (if ok then .tuple #[(f x).elim z ve, .bool (f x).isSome] else (f x).elim z ve) w := by
  obtain ⟨es, clock, h1, h2, h3⟩ := h.found K hx
  rcases h3 with ⟨h4, h5⟩ | ⟨j, y, h4, h5⟩
  · cases ok <;> simp [Instr.lookup, run_underlying ht, MapKept.run_getObj_map h1, h2, h5, hz, h4, Result.andThen]
  · cases ok <;> simp [Instr.lookup, run_underlying ht, MapKept.run_getObj_map h1, h2, h5, h4, Result.andThen]
theorem grown_set {w : World} {g : Nat} {o : Obj} : w.grownBy { w with heap := w.heap.setIfInBounds g o } (some g) :=
  ⟨rfl, rfl, rfl, by simp, fun k _ hk => by simp only [Array.getElem?_setIfInBounds]; rw [if_neg (fun e => hk (by rw [e]))]⟩
theorem MapIs.update (K : KeyOf P k ke okk) (ht : P.underlying t = some (.map k e)) (h : MapIs ke ve okk w g n f) {x : κ} (hx : okk x) (y : β) :
    ∃ w', (Instr.mapUpdate t (.map (some g)) (ke x) (ve y)).run P w = .ok () w' ∧ w.grownBy w' (some g) ∧ MapIs ke ve okk w' g (if (f x).isSome then n else n + 1) (upd f x y) := by
  obtain ⟨es, clock, h1, hn, h3, h4, h5⟩ := h
  obtain ⟨lx, hlx⟩ := K.tells x hx
  have hlt : g < w.heap.size := (Array.getElem?_eq_some_iff.1 h1).1
  have hset : ∀ o : Obj, ({ w with heap := w.heap.setIfInBounds g o } : World).heap[g]? = some o := fun o => by simp [hlt]
  rcases K.law.find w hlx es.toList (fun e he => by
    obtain ⟨x', y, ho, hk, _⟩ := h4 e he
    rw [hk]; exact K.tells x' ho) with ⟨h6, h7⟩ | ⟨j, e0, h6, h7, h8⟩
  · have hfx : f x = none := by
      cases hf : f x with
      | none => rfl
      | some y => obtain ⟨e, he, hk, _⟩ := h5 x y hf; exact absurd hk (h7 e he)
    refine ⟨{ w with heap := w.heap.setIfInBounds g (.map (es.push { key := ke x, val := ve y, born := clock }) (clock + 1)) }, ?_, grown_set, es.push _, clock + 1, hset _, by simp [hfx, hn], ?_, ?_, ?_⟩
    · simp [Instr.mapUpdate, run_underlying ht, MapKept.run_getObj_map h1, K.law.check w false hlx, h6, MapKept.run_setObj_map _ h1, Result.andThen]
    · rw [Array.toList_push, List.map_append, List.nodup_append]
      exact ⟨h3, by simp, fun a ha b hb => by
        obtain ⟨e, he, rfl⟩ := List.mem_map.1 ha
        simp at hb
        subst hb
        exact h7 e he⟩
    · intro e he
      rw [Array.toList_push] at he
      rcases List.mem_append.1 he with he | he
      · obtain ⟨x', y', ho, hk, hv, hf⟩ := h4 e he
        exact ⟨x', y', ho, hk, hv, by rw [upd_ne f y (fun e1 => h7 e he (by rw [hk, e1]))]; exact hf⟩
      · simp at he
        subst he
        exact ⟨x, y, hx, rfl, rfl, upd_self f x y⟩
    · intro x' y' hf
      rw [Array.toList_push]
      by_cases e1 : x' = x
      · subst e1
        rw [upd_self] at hf
        injection hf with hf
        subst hf
        exact ⟨_, List.mem_append_right _ (.head _), rfl, rfl⟩
      · rw [upd_ne f y e1] at hf
        obtain ⟨e, he, hk, hv⟩ := h5 x' y' hf
        exact ⟨e, List.mem_append_left _ he, hk, hv⟩
  · have hj : es[j]? = some e0 := by simpa using h7
    have hjl : j < es.toList.length := (List.getElem?_eq_some_iff.1 h7).1
    obtain ⟨x0, y0, ho0, hk0, hv0, hf0⟩ := h4 e0 (List.mem_of_getElem? h7)
    have := K.inj _ _ (hk0.symm.trans h8)
    subst this
    have hlist : (es.modify j (fun e' => { e' with key := ke x0, val := ve y })).toList = es.toList.set j { e0 with key := ke x0, val := ve y } := by
      rw [Array.toList_modify]
      apply List.ext_getElem?
      intro i
      rw [List.getElem?_modify, List.getElem?_set]
      by_cases hi : j = i
      · subst hi
        have hjs : j < es.size := by simpa using hjl
        rw [h7]
        simp [hjs]
      · simp [hi]
    refine ⟨{ w with heap := w.heap.setIfInBounds g (.map (es.modify j (fun e' => { e' with key := ke x0, val := ve y })) clock) }, ?_, grown_set, _, clock, hset _, by simp [hf0, hn], ?_, ?_, ?_⟩
    · simp [Instr.mapUpdate, run_underlying ht, MapKept.run_getObj_map h1, K.law.check w false hlx, h6, hj, hk0, K.law.stays w hlx, MapKept.run_setObj_map _ h1, Result.andThen]
    · rw [hlist, List.map_set]
      have : (es.toList.map (·.key)).set j (ke x0) = es.toList.map (·.key) := by
        apply List.ext_getElem?
        intro i
        rw [List.getElem?_set]
        by_cases hi : j = i
        · subst hi
          rw [if_pos rfl, if_pos (by simpa using hjl), List.getElem?_map, h7]
          simp [hk0]
        · rw [if_neg hi]
      rw [this]; exact h3
    · intro e he
      rw [hlist] at he
      obtain ⟨i, hi, rfl⟩ := List.mem_iff_getElem.1 he
      rw [List.getElem_set]
      by_cases hij : j = i
      · subst hij
        simp only [if_true]
        exact ⟨x0, y, hx, rfl, rfl, upd_self f x0 y⟩
      · rw [if_neg hij]
        have hi' : i < es.toList.length := by simpa using hi
        obtain ⟨x', y', ho, hk, hv, hf⟩ := h4 _ (List.getElem_mem hi')
        refine ⟨x', y', ho, hk, hv, ?_⟩
        have hne : x' ≠ x0 := by
          rintro rfl
          apply hij
          have h9 := (List.getElem?_inj (i := j) (j := i) (l := es.toList.map (·.key)) (by simpa using hjl) h3).1 (by
            rw [List.getElem?_map, List.getElem?_map, h7, List.getElem?_eq_getElem hi']
            show some e0.key = some es.toList[i].key
            rw [hk0, hk])
          exact h9
        rw [upd_ne f y hne]; exact hf
    · intro x' y' hf
      rw [hlist]
      by_cases e1 : x' = x0
      · subst e1
        rw [upd_self] at hf
        injection hf with hf
        subst hf
        exact ⟨_, List.mem_iff_getElem.2 ⟨j, by simpa using hjl, by rw [List.getElem_set_self]⟩, rfl, rfl⟩
      · rw [upd_ne f y e1] at hf
        obtain ⟨e, he, hk, hv⟩ := h5 x' y' hf
        obtain ⟨i, hi, rfl⟩ := List.mem_iff_getElem.1 he
        have hij : j ≠ i := by
          rintro rfl
          rw [List.getElem?_eq_getElem hi] at h7
          injection h7 with h7
          rw [h7, hk0] at hk
          exact e1 (K.inj _ _ hk).symm
        exact ⟨_, List.mem_iff_getElem.2 ⟨i, by simpa using hi, rfl⟩, by rw [List.getElem_set_ne hij]; exact hk, by rw [List.getElem_set_ne hij]; exact hv⟩
end
section
variable {P : Program} {k t e : TypeId} {κ β : Type} [DecidableEq κ] {ke : κ → Value} {ve : β → Value} {okk : κ → Prop} {g n : Nat} {f : κ → Option β}
variable {ops : Array Oper} {rest : List Oper} {o : Oper} {a : Act} {Q : Exit → Act → World → Prop} {M Z : Nat → Prop} {w0 W : World} {R l : List Asr}
theorem wp_makeMap (H : MemM M Z w0 W R l) (ke : κ → Value) (ve : β → Value) (okk : κ → Prop) (hgd : o.guard = none) (ho : o.op = .makeMap t none)
    (h : ∀ g W1, MemM M Z w0 W1 R (mapOf ke ve okk g 0 (fun _ => none) :: l) → wpList P ops Q rest (a.put o.dst (.map (some g))) W1) : wpList P ops Q (o :: rest) a W := by
  refine wpList_plain hgd fun K hK => ?_
  unfold Oper.wp
  simp [execOp, ho, run_makeMap, Result.andThen]
  exact hK _ _ (h _ _ (H.new (World.grownBy_alloc W _ none) ⟨Nat.le_refl _, MapIs.empty W⟩))
theorem wp_lookup (K : KeyOf P k ke okk) (hm : mapOf ke ve okk g n f ∈ l) (H : MemM M Z w0 W R l) (hgd : o.guard = none) (x y : Operand) (ok : Bool) (ho : o.op = .lookup t x y ok) (ht : P.underlying t = some (.map k e))
    {z : Value} (hz : ∀ W, (zeroValue e).run P W = .ok z W) (hx : a.eval x = .map (some g)) (q : κ) (hy : a.eval y = ke q) (hq : okk q)
    (h : wpList P ops Q rest (a.put o.dst (if ok then .tuple #[(f q).elim z ve, .bool (f q).isSome] else (f q).elim z ve)) W) : wpList P ops Q (o :: rest) a W := by
  obtain ⟨F, S, _, _, _, _, h2⟩ := H.item hm
  refine wpList_plain hgd fun K' hK => ?_
  unfold Oper.wp
  simp [execOp, ho, hx, hy, h2.lookup K ht hq (hz W) ok, Result.andThen]
  exact hK _ _ (by simpa using h)
theorem wp_mapUpdate (K : KeyOf P k ke okk) (H : MemM M Z w0 W R (mapOf ke ve okk g n f :: l)) (hgd : o.guard = none) (m x y : Operand) (ho : o.op = .mapUpdate t m x y) (ht : P.underlying t = some (.map k e))
    (hm : a.eval m = .map (some g)) (q : κ) (hx : a.eval x = ke q) (hq : okk q) (r : β) (hy : a.eval y = ve r)
    (h : ∀ W1, MemM M Z w0 W1 R (mapOf ke ve okk g (if (f q).isSome then n else n + 1) (upd f q r) :: l) → wpList P ops Q rest (a.put o.dst undef) W1) : wpList P ops Q (o :: rest) a W := by
  obtain ⟨F, S, h1, h2, h3, h4, h5, h6⟩ := H.open1
  obtain ⟨w', hr, hg, hM⟩ := h1.2.update K ht hq r
  refine wpList_plain hgd fun K' hK => ?_
  unfold Oper.wp
  simp [execOp, ho, hm, hx, hy, hr, Result.andThen]
  exact hK _ _ (h _ (h6 w' _ (some g) hg (fun k hk => by cases hk; exact h1.1) ⟨.inl h1.1, hM⟩))
end
end Go.Proofs.Ytcagkdgpoijkoaa.Map
end
section
namespace Go.Proofs.Ytcagkdgpoijkoaa.Low
open Go.RowKit Go.Proofs.Ytcagkdgpoijkoaa.Mq Go.Proofs.Ytcagkdgpoijkoaa.Pfx Go.Proofs.Ytcagkdgpoijkoaa.Cls Go.Proofs.Ytcagkdgpoijkoaa.Map
set_option linter.unusedVariables false
set_option linter.unusedSimpArgs false
attribute [local go_sem] bs_list
attribute [local go_sem ↓] Eq.eql_pf
theorem spelled {W : World} {cs : List Value} {ad : Addr} {n : Nat} (h : ∀ (j : Nat) u, cs[j]? = some u → W.cell? (ad.add (n + j)) = some u) (j : Nat) (u : Value) (hj : cs[j + 1]? = some u) : W.cell? ⟨(ad.add n).block, (ad.add n).off + (j + 1), none⟩ = some u := by
  have h1 := h (j + 1) u hj; rw [← add_add] at h1; simpa [Addr.add] using h1
def indexB (ps : List Pf) (p : Pf) : Int := match ps.findIdx? (fun q => p == q) with | some k => k | none => -1
set_option maxHeartbeats 4000000 in
set_option maxRecDepth 100000 in
theorem index_calls {w : World} {A : Option Addr} {ps : List Pf} {n : Nat} (h : Row pfR w (· < w.heap.size) A ps) (a b : Int) :
    Calls Try.prog 48 #[.slice A ps.length n, .agg #[.int .u32 a, .int .i64 b]] w fun e W => e = .returned (.int .i64 (indexB ps ⟨a, b⟩)) ∧ Mem w W [] [] := by
  have H := (MemM.start w).box 35 [.int .u32 a, .int .i64 b]; have hl := h.len; unfold maxLen at hl; go_enter Try.func48, Try.ntmps48; go_wp2_with fail; generalize w.heap.size = g at H ⊢; generalize w.alloc (.cells #[.int .u32 a, .int .i64 b] 35) = W at H ⊢; go_loopw [8] (fun v8 W => ∃ k : Nat, k ≤ ps.length ∧ v8 = .int .i64 k ∧ Hid (∀ q ∈ ps.take k, q ≠ ⟨a, b⟩) ∧ Mem w W [] [box g 35 [.int .u32 a, .int .i64 b]]) (fun v8 _ => ps.length - (intOf v8).toNat)
  case atStart => exact ⟨0, Nat.zero_le _, rfl, (fun q hq => by simp at hq), H⟩
  case round =>
    clear H; obtain ⟨k, hk, rfl, hacc, H⟩ := hrel; by_cases hlt : k < ps.length
    · obtain ⟨q, hq⟩ : ∃ q, ps[k]? = some q := ⟨_, List.getElem?_eq_getElem hlt⟩
      obtain ⟨ad, rfl, hx⟩ := h.flat1 hq; have hx := oldcells H hx; have x0 := hx 0 _ rfl; have x1 := spelled hx 0 _ rfl; have c0 := (H.boxcell (.head _) 0 _ rfl).1; have c1 := (H.boxcell (.head _) 1 _ rfl).1; obtain ⟨pa, pb⟩ := q; simp only [Nat.add_zero] at x0; clear hx; have hmem := List.mem_of_getElem? hq; have hsn := hide (List.take_succ_eq_append_getElem hlt); (have hqk : Hid (ps[k] = ⟨pa, pb⟩) := by rw [List.getElem?_eq_getElem hlt] at hq; injection hq); by_cases he : a = pa ∧ b = pb
      · obtain ⟨rfl, rfl⟩ := he
        have hfin : Hid (indexB ps ⟨a, b⟩ = k) := by
          unfold indexB Hid
          rw [show ps.findIdx? (fun q => (⟨a, b⟩ : Pf) == q) = some k from by
            rw [List.findIdx?_eq_some_iff_getElem]; refine ⟨hlt, by simp [hqk.out], fun j hj => ?_⟩; have := hacc.out ps[j] (List.mem_take_iff_getElem.2 ⟨j, by omega, rfl⟩); simp
            exact fun e => this e.symm]
        clear hq hmem; (have e1 : (a == a && b == b) = true := by simp); go_wp2; go_quiet (fail); go_wp2; go_ret; exact ⟨by rw [hfin.out]; rfl, (H.drewN _).drop⟩
      · have e1 : (a == pa && b == pb) = false := by simpa using he
        have hnx : Hid (∀ q ∈ ps.take (k + 1), q ≠ ⟨a, b⟩) := by
          intro q hq2; rw [hsn.out, hqk.out] at hq2; rcases List.mem_append.1 hq2 with h | h
          · exact hacc.out q h
          · rw [List.mem_singleton.1 h]
            intro e; injection e with e2 e3; exact he ⟨e2.symm, e3.symm⟩
        clear hq hmem he; go_wp2; go_quiet (fail); go_wp2; go_roundw
        case rel => exact ⟨k + 1, by omega, by go_num, hnx, H.drewN _⟩
        case measure => simp [intOf]; omega
    · obtain rfl : k = ps.length := by omega
      have hfin : Hid (indexB ps ⟨a, b⟩ = -1) := by
        unfold indexB Hid
        rw [show ps.findIdx? (fun q => (⟨a, b⟩ : Pf) == q) = none from by
          rw [List.findIdx?_eq_none_iff]; intro q hq; have := hacc.out q (by rw [List.take_length]; exact hq); simp
          exact fun e => this e.symm]
      go_wp2; go_ret; exact ⟨by rw [hfin.out]; rfl, H.drop⟩
set_option maxHeartbeats 4000000 in
set_option maxRecDepth 100000 in
theorem contains_calls {w : World} {A : Option Addr} {ps : List Pf} {n : Nat} (h : Row pfR w (· < w.heap.size) A ps) (a b : Int) :
    Calls Try.prog 36 #[.slice A ps.length n, .agg #[.int .u32 a, .int .i64 b]] w fun e W => e = .returned (.bool (decide (0 ≤ indexB ps ⟨a, b⟩))) ∧ Mem w W [] [] := by
  have H := (MemM.start w).box 35 [.int .u32 a, .int .i64 b]; have hl := h.len; unfold maxLen at hl; go_enter Try.func36, Try.ntmps36; go_wp2_with fail; refine (index_calls (H.arg h) a b).mono ?_; rintro e W1 ⟨rfl, hm⟩; replace H := H.call hm; obtain ⟨k, hk⟩ : ∃ k, Hid (indexB ps ⟨a, b⟩ = k) := ⟨_, rfl⟩; rw [hk.out]; go_wp2; go_ret; exact ⟨by rw [hk.out]; rfl, H.drop⟩
def ks (s : Str) : Value := .string (bs s)
def oks (s : Str) : Prop := s.length ≤ maxLen
theorem skeys : KeyOf Try.prog 9 ks oks where
  law := Go.Maps.string_keyed Try.underlying9
  tells := by
    intro s hs; refine ⟨.string (bs s).data.toList, ?_⟩; unfold keyOf; rw [Try.underlying9]; simp [mapKey, Try.underlying9, ks, bs_size, show s.length ≤ maxLen from hs]
  inj := by
    intro x y h; simp only [ks, Value.string.injEq] at h; exact bs_inj.1 h
def atN (rs : List Rt) : Nat → Str → Option Int
  | 0 => fun _ => none
  | k + 1 => match rs[k]? with
    | some r => upd (atN rs k) r.name k
    | none => atN rs k
theorem run_ldcells {P : Program} {a : Act} {o : Oper} {W : World} {ad : Addr} {n : Nat} (cs : List Value) (hc : ∀ (j : Nat) u, cs[j]? = some u → W.cell? (ad.add (n + j)) = some u) (t : TypeId) (p : Operand) (ho : o.op = .load t p) (hp : a.eval p = .pointer (some (ad.add n)))
    (d : TypeDesc) (hu : P.underlying t = some d) (hd : d.isRow = true) (hi : (P.info? t).map (·.size) = some cs.length) : (execOp a.eval o).run P W = .ok (.value (.agg cs.toArray)) W := by
  have hl : (loadCells (ad.add n) cs.length).run P W = .ok cs.toArray W :=
    run_loadCells_list (P := P) W (ad.add n) cs (fun j v hv => by rw [add_add]; exact hc j v hv)
  cases hq : P.info? t with
  | none => simp [hq] at hi
  | some i =>
    have hs : i.size = cs.length := by simpa [hq] using hi
    have hagg : (isAgg t).run P W = .ok true W := by
      unfold isAgg; rw [Sem.run_bind, run_underlying hu W]; cases d <;> simp_all
    unfold execOp; simp only [ho, hp, Instr.loadAt, Instr.sureAddr, Sem.run_bind, Sem.run_pure, Result.andThen_ok, loadVar, hagg, sizeOf, typeInfo, hq, hs, hl, if_true]; simp [Sem.run_bind, typeInfo, hq, hs, hl, Result.andThen]
def orgB (td : Pf) (r : Rt) : Bool := decide (0 ≤ indexB r.nets td)
def wayB (td : Pf) (rs : List Rt) (r : Rt) : Int := if 0 ≤ (staticB td r.ways).2 then (atN rs rs.length (staticB td r.ways).1).getD (-1) else -1
def edgeB (td : Pf) (ms : List Mp) (rs : List Rt) (r : Rt) (l : Lk) : Option Ed :=
  (atN rs rs.length l.peer).map fun k => ⟨k, l.cost, clausesB ms (((rs[k.toNat]?).bind fun q => peerB q.links r.name).getD lk0).exp td, clausesB ms l.imp td⟩
def edgesB (td : Pf) (ms : List Mp) (rs : List Rt) (r : Rt) : List Ed := r.links.filterMap (edgeB td ms rs r)
theorem static_oks (td : Pf) (ws : List Wy) (h : ∀ y ∈ ws, oks y.via) : oks (staticB td ws).1 := by
  unfold staticB
  have : ∀ (l : List Wy) (s : Str × Int), oks s.1 → (∀ y ∈ l, oks y.via) → oks (l.foldl (staticS td) s).1 := by
    intro l
    induction l with
    | nil => exact fun s h _ => h
    | cons y l ih =>
      intro s hs hl; refine ih _ ?_ (fun z hz => hl z (List.mem_cons_of_mem _ hz)); unfold staticS; split
      · exact hl y List.mem_cons_self
      · exact hs
  exact this ws _ (by simp [oks, maxLen]) h
theorem info_int : (Try.prog.info? 3).map (fun i => (i.zero, i.size, i.bytes)) = some (some (.int .i64 0), 1, 8) := by kernel_rfl
theorem take_filterMap {α β : Type} (f : α → Option β) (l : List α) (k : Nat) (x : α) (hx : l[k]? = some x) : (l.take (k + 1)).filterMap f = (l.take k).filterMap f ++ (f x).toList := by
  obtain ⟨hj, rfl⟩ := List.getElem?_eq_some_iff.1 hx; rw [List.take_succ_eq_append_getElem hj, List.filterMap_append]; cases h : f l[k] <;> simp [h]
theorem take_map {α β : Type} (f : α → β) (l : List α) (k : Nat) (x : α) (hx : l[k]? = some x) : (l.take (k + 1)).map f = (l.take k).map f ++ [f x] := by
  obtain ⟨hj, rfl⟩ := List.getElem?_eq_some_iff.1 hx; rw [List.take_succ_eq_append_getElem hj, List.map_append]; rfl
theorem info_ed : (Try.prog.info? 51).map (fun i => (i.zero, i.size, i.bytes)) = some (some (.agg #[.int .i64 0, .int .i64 0, .slice none 0 0, .slice none 0 0]), 4, 64) := by kernel_rfl
theorem info_es : (Try.prog.info? 52).map (fun i => (i.zero, i.size, i.bytes)) = some (some (.slice none 0 0), 1, 24) := by kernel_rfl
theorem atN_lt (rs : List Rt) : ∀ (n : Nat) (s : Str) (q : Int), atN rs n s = some q → ∃ k : Nat, k < rs.length ∧ q = k
  | 0, s, q, h => by cases h
  | n + 1, s, q, h => by
    cases hr : rs[n]? with
    | none =>
      (have h2 : atN rs (n + 1) = atN rs n := by rw [atN, hr]); rw [h2] at h; exact atN_lt rs n s q h
    | some r =>
      (have h2 : atN rs (n + 1) = upd (atN rs n) r.name (n : Int) := by rw [atN, hr]); rw [h2] at h; by_cases he : s = r.name
      · subst he
        rw [upd_self] at h; injection h with h; exact ⟨n, (List.getElem?_eq_some_iff.1 hr).1, h.symm⟩
      · rw [upd_ne _ _ he] at h
        exact atN_lt rs n s q h
theorem info_bool : (Try.prog.info? 4).map (fun i => (i.zero, i.size, i.bytes)) = some (some (.bool false), 1, 1) := by kernel_rfl
theorem info_nt : (Try.prog.info? 32).map (·.zero) = some (some (.agg #[.slice none 0 0, .slice none 0 0, .slice none 0 0])) := by kernel_rfl
theorem info_rt : (Try.prog.info? 91).map (·.zero) = some (some (.agg #[.string ByteArray.empty, .slice none 0 0, .slice none 0 0, .slice none 0 0, .int .i64 0])) := by kernel_rfl
set_option maxHeartbeats 4000000 in
set_option maxRecDepth 100000 in
theorem net_calls {w : World} {A0 A1 : Option Addr} {ms : List Mp} {rs : List Rt} {c0 c1 : Nat} (hmr : Row mpR w (· < w.heap.size) A0 ms) (hr : Row rtR w (· < w.heap.size) A1 rs) (a b : Int) (hnm : ∀ r ∈ rs, oks r.name) (hrl : rs.length ≤ 1000000000) (hvia : ∀ r ∈ rs, ∀ y ∈ r.ways, oks y.via) (hpeer : ∀ r ∈ rs, ∀ l ∈ r.links, oks l.peer) (hcl : ∀ m ∈ ms, m.clauses.length ≤ 2000000000000) (hlk : ∀ r ∈ rs, r.links.length ≤ 1000000000) :
    Calls Try.prog 23 #[.agg #[.slice A0 ms.length c0, .slice A1 rs.length c1], .agg #[.int .u32 a, .int .i64 b]] w fun e W => ∃ v0 v1 v2 : Value, e = .returned (.agg #[v0, v1, v2]) ∧ Mem w W [] [own bool 4 v0 (rs.map (orgB ⟨a, b⟩)), own (int .i64) 3 v1 (rs.map (wayB ⟨a, b⟩ rs)), own (slice edR) 52 v2 (rs.map (edgesB ⟨a, b⟩ ms rs))] := by
  have H := (((MemM.start w).box 70 [.slice A0 ms.length c0, .slice A1 rs.length c1]).box 35 [.int .u32 a, .int .i64 b]).box 32 [.slice none 0 0, .slice none 0 0, .slice none 0 0]; have hl := hr.len; unfold maxLen at hl; go_enter Try.func23, Try.ntmps23; (have e1 : (w.alloc (.cells #[.slice A0 ms.length c0, .slice A1 rs.length c1] 70)).heap.size = w.heap.size + 1 := by simp); (have e2 : ((w.alloc (.cells #[.slice A0 ms.length c0, .slice A1 rs.length c1] 70)).alloc (.cells #[.int .u32 a, .int .i64 b] 35)).heap.size = w.heap.size + 1 + 1 := by simp); rw [e1, e2] at H; go_wp2_with (first | ((with_reducible refine gate_dst (N := 23) rfl ?_); refine wp_makeMap H ks (Value.int .i64) oks rfl rfl ?_; clear H; intro gm W1 H; have q0 := (H.boxcell (.tail _ (.tail _ (.tail _ (.head _)))) 0 _ rfl).1; have q1 := (H.boxcell (.tail _ (.tail _ (.tail _ (.head _)))) 1 _ rfl).1)); generalize w.heap.size = g at H ⊢; go_loopw [27] (fun v27 W => ∃ k cnt : Nat, k ≤ rs.length ∧ v27 = .int .i64 k ∧ Mem w W [] [mapOf ks (Value.int .i64) oks gm cnt (atN rs k), box (g + 1 + 1) 32 [.slice none 0 0, .slice none 0 0, .slice none 0 0], box (g + 1) 35 [.int .u32 a, .int .i64 b], box g 70 [.slice A0 ms.length c0, .slice A1 rs.length c1]]) (fun v27 _ => rs.length - (intOf v27).toNat)
  case atStart => exact ⟨0, 0, Nat.zero_le _, rfl, H⟩
  case round =>
    clear H q0 q1; obtain ⟨k, cnt, hk, rfl, H⟩ := hrel; by_cases hlt : k < rs.length
    · obtain ⟨r, hrk⟩ : ∃ r, rs[k]? = some r := ⟨_, List.getElem?_eq_getElem hlt⟩
      have hok := hnm r (List.mem_of_getElem? hrk); (have hat : Hid (atN rs (k + 1) = upd (atN rs k) r.name (k : Int)) := by rw [Hid, atN, hrk]); obtain ⟨ad, A2, n2, A3, n3, A4, n4, rfl, hx, -, -, -⟩ := hr.rt1 hrk; have hx := hide (oldcells H hx); clear hrk
      go_wp2_with (first
        | ((with_reducible refine gate_dst (N := 31) rfl ?_); refine wp_ldcells [.string (bs r.name), .slice A2 r.nets.length n2, .slice A3 r.links.length n3, .slice A4 r.ways.length n4, .int .i64 r.at_] hx.out rfl _ _ rfl rfl _ Try.underlying91 rfl (by kernel_rfl) ?_)
        | ((with_reducible refine gate_dst (N := 7) rfl ?_); refine wp_alloc H rfl _ rfl _ info_rt _ rfl ?_; clear H hx; intro gc W1 H)
        | (refine wp_stbox H rfl _ _ _ rfl 0 rfl _ rfl _ rfl (by kernel_rfl) rfl (Nat.le_of_ble_eq_true rfl) [.string (bs r.name), .slice A2 r.nets.length n2, .slice A3 r.links.length n3, .slice A4 r.ways.length n4, .int .i64 r.at_] rfl ?_; clear H; intro W2 H; have x0 := (H.boxcell (.head _) 0 _ rfl).1; have x1 := (H.boxcell (.head _) 1 _ rfl).1; have x2 := (H.boxcell (.head _) 2 _ rfl).1; have x3 := (H.boxcell (.head _) 3 _ rfl).1; have x4 := (H.boxcell (.head _) 4 _ rfl).1)
        | (refine wp_mapUpdate skeys H.pull1 rfl _ _ _ rfl Try.underlying102 rfl r.name rfl hok (k : Int) rfl ?_; clear H; intro W3 H))
      go_roundw
      case rel => exact ⟨k + 1, _, by omega, by go_num, by rw [hat.out]; exact H.pull1.drop⟩
      case measure => simp [intOf]; omega
    · obtain rfl : k = rs.length := by omega
      have q0 := (H.boxcell (.tail _ (.tail _ (.tail _ (.head _)))) 0 _ rfl).1; have q1 := (H.boxcell (.tail _ (.tail _ (.tail _ (.head _)))) 1 _ rfl).1; go_wp2_with (first | ((with_reducible refine gate_dst (N := 8) rfl ?_); refine wp_alloc H rfl _ rfl _ info_nt _ rfl ?_; clear H q0 q1; intro go W2 H; have q0 := (H.boxcell (.tail _ (.tail _ (.tail _ (.tail _ (.head _))))) 0 _ rfl).1; have q1 := (H.boxcell (.tail _ (.tail _ (.tail _ (.tail _ (.head _))))) 1 _ rfl).1)); have H := ((((H.nilItem (slice edR) 52).nilItem (int .i64) 3).nilItem bool 4).perm (List.Perm.refl _)); go_loopw [40] (fun v40 W => ∃ (k : Nat) (vo vs ve : Value), k ≤ rs.length ∧ v40 = .int .i64 k ∧ Mem w W [] [own bool 4 vo ((rs.take k).map (orgB ⟨a, b⟩)), own (int .i64) 3 vs ((rs.take k).map (wayB ⟨a, b⟩ rs)), own (slice edR) 52 ve ((rs.take k).map (edgesB ⟨a, b⟩ ms rs)), box go 32 [vo, vs, ve], mapOf ks (Value.int .i64) oks gm cnt (atN rs rs.length), box (g + 1 + 1) 32 [.slice none 0 0, .slice none 0 0, .slice none 0 0], box (g + 1) 35 [.int .u32 a, .int .i64 b], box g 70 [.slice A0 ms.length c0, .slice A1 rs.length c1]]) (fun v40 _ => rs.length - (intOf v40).toNat)
      case atStart => exact ⟨0, _, _, _, Nat.zero_le _, rfl, H⟩
      case round =>
        clear H q0 q1; obtain ⟨k, vo, vs, ve, hk, rfl, H⟩ := hrel; by_cases hlt : k < rs.length
        · obtain ⟨r, hrk⟩ : ∃ r, rs[k]? = some r := ⟨_, List.getElem?_eq_getElem hlt⟩
          obtain ⟨ad, A2, n2, A3, n3, A4, n4, rfl, hx, hnets, hlinks, hways⟩ := hr.rt1 hrk; have hx := hide (oldcells H hx); have hrv := hvia r (List.mem_of_getElem? hrk); have hrp := hpeer r (List.mem_of_getElem? hrk); have hrl2 := hlk r (List.mem_of_getElem? hrk); have hto := hide (take_map (orgB ⟨a, b⟩) rs k r hrk); have htw := hide (take_map (wayB ⟨a, b⟩ rs) rs k r hrk); have hte := hide (take_map (edgesB ⟨a, b⟩ ms rs) rs k r hrk); clear hrk
          go_wp2_with (first
            | ((with_reducible refine gate_dst (N := 43) rfl ?_); refine wp_ldcells [.string (bs r.name), .slice A2 r.nets.length n2, .slice A3 r.links.length n3, .slice A4 r.ways.length n4, .int .i64 r.at_] hx.out rfl _ _ rfl rfl _ Try.underlying91 rfl (by kernel_rfl) ?_)
            | ((with_reducible refine gate_dst (N := 10) rfl ?_); refine wp_alloc H rfl _ rfl _ info_rt _ rfl ?_; clear H hx; intro gr W1 H)
            | (refine wp_stbox H rfl _ _ _ rfl 0 rfl _ rfl _ rfl (by kernel_rfl) rfl (Nat.le_of_ble_eq_true rfl) [.string (bs r.name), .slice A2 r.nets.length n2, .slice A3 r.links.length n3, .slice A4 r.ways.length n4, .int .i64 r.at_] rfl ?_; clear H; intro W2 H))
          refine wp_region_mix 8 (fun W' => W'.cell? ⟨go, 0, none⟩ = some vo ∧ W'.cell? ⟨gr, 1, none⟩ = some (.slice A2 r.nets.length n2) ∧ W'.cell? ⟨g + 1, 0, none⟩ = some (.int .u32 a) ∧ W'.cell? ⟨g + 1, 1, none⟩ = some (.int .i64 b)) (by kernel_rfl) ?_; replace H := H.drew
          have hSof : Hid (∀ W' l, MemM (fun _ => False) (fun _ => False) w W' [] l → box gr 91 [.string (bs r.name), .slice A2 r.nets.length n2, .slice A3 r.links.length n3, .slice A4 r.ways.length n4, .int .i64 r.at_] ∈ l → box go 32 [vo, vs, ve] ∈ l → box (g + 1) 35 [.int .u32 a, .int .i64 b] ∈ l → (W'.cell? ⟨go, 0, none⟩ = some vo ∧ W'.cell? ⟨gr, 1, none⟩ = some (.slice A2 r.nets.length n2) ∧ W'.cell? ⟨g + 1, 0, none⟩ = some (.int .u32 a) ∧ W'.cell? ⟨g + 1, 1, none⟩ = some (.int .i64 b))) := fun W' l h h1 h2 h3 =>
            ⟨(h.boxcell h2 0 _ rfl).1, (h.boxcell h1 1 _ rfl).1, (h.boxcell h3 0 _ rfl).1, (h.boxcell h3 1 _ rfl).1⟩
          have hS := hSof.out _ _ H (.head _) (.tail _ (.tail _ (.tail _ (.tail _ (.head _))))) (.tail _ (.tail _ (.tail _ (.tail _ (.tail _ (.tail _ (.tail _ (.head _)))))))); refine wpAnyM_take (i := 0) (v := ?_) rfl (by kernel_rfl) (by kernel_rfl) (by kernel_rfl) (by kernel_rfl) (fun _ _ _ h => h) hS (Or.inl ⟨by rfl, ?_⟩) ?_; rotate_left
          · intro w1 hS1
            (try dsimp only at hS1); go_simp; try with_reducible rfl
          simp only [Act.put, List.getElem_toArray, List.getElem_cons_succ, List.getElem_cons_zero, List.setIfInBounds_toArray, List.set_cons_zero, List.set_cons_succ]; refine wpAnyM_take (i := 1) (v := ?_) rfl (by kernel_rfl) (by kernel_rfl) (by kernel_rfl) (by kernel_rfl) (fun _ _ _ h => h) hS (Or.inl ⟨by rfl, ?_⟩) ?_; rotate_left
          · intro w1 hS1
            (try dsimp only at hS1); go_simp; try with_reducible rfl
          simp only [Act.put, List.getElem_toArray, List.getElem_cons_succ, List.getElem_cons_zero, List.setIfInBounds_toArray, List.set_cons_zero, List.set_cons_succ]; refine wpAnyM_take (i := 2) (v := ?_) rfl (by kernel_rfl) (by kernel_rfl) (by kernel_rfl) (by kernel_rfl) (fun _ _ _ h => h) hS (Or.inl ⟨by rfl, ?_⟩) ?_; rotate_left
          · intro w1 hS1
            (try dsimp only at hS1); go_simp; try with_reducible rfl
          simp only [Act.put, List.getElem_toArray, List.getElem_cons_succ, List.getElem_cons_zero, List.setIfInBounds_toArray, List.set_cons_zero, List.set_cons_succ]; refine wpAnyM_take (i := 3) (v := ?_) rfl (by kernel_rfl) (by kernel_rfl) (by kernel_rfl) (by kernel_rfl) (fun _ _ _ h => h) hS (Or.inl ⟨by rfl, ?_⟩) ?_; rotate_left
          · intro w1 hS1
            (try dsimp only at hS1); go_simp; try with_reducible rfl
          simp only [Act.put, List.getElem_toArray, List.getElem_cons_succ, List.getElem_cons_zero, List.setIfInBounds_toArray, List.set_cons_zero, List.set_cons_succ]; refine wpAnyM_take (i := 4) (v := ?_) rfl (by kernel_rfl) (by kernel_rfl) (by kernel_rfl) (by kernel_rfl) (fun _ _ _ h => h) hS (Or.inl ⟨by rfl, ?_⟩) ?_; rotate_left
          · intro w1 hS1
            (try dsimp only at hS1); go_simp; try with_reducible rfl
          simp only [Act.put, List.getElem_toArray, List.getElem_cons_succ, List.getElem_cons_zero, List.setIfInBounds_toArray, List.set_cons_zero, List.set_cons_succ]; refine wpAnyM_one (i := 5) rfl (by kernel_rfl) ?_; intro K' hK; go_wp2_with (go_at_call 36; refine (contains_calls (H.arg hnets) a b).mono ?_; rintro e W3 ⟨rfl, hm⟩; replace H := H.call hm); refine hK.out _ _ (fun hlt => hSof.out _ _ H (.head _) (.tail _ (.tail _ (.tail _ (.tail _ (.head _))))) (.tail _ (.tail _ (.tail _ (.tail _ (.tail _ (.tail _ (.tail _ (.head _))))))))) ?_; clear hK K'; refine wpAnyM_one (i := 6) rfl (by kernel_rfl) ?_; intro K' hK; go_wp2_with (fail); refine hK.out _ _ (fun hlt => hSof.out _ _ (H.alloc _) (.head _) (.tail _ (.tail _ (.tail _ (.tail _ (.head _))))) (.tail _ (.tail _ (.tail _ (.tail _ (.tail _ (.tail _ (.tail _ (.head _))))))))) ?_; clear hK K'; refine wpAnyM_one (i := 7) rfl (by kernel_rfl) ?_; intro K' hK; go_wp2_with (first | ((with_reducible refine gate_dst (N := 51) rfl ?_); refine wp_append H.pull1 rfl _ _ _ (.bool false) 1 rfl Try.underlying28 info_bool rfl (by decide) (by decide) (orgB ⟨a, b⟩ r) [.bool (orgB ⟨a, b⟩ r)] rfl rfl (fun _ _ => rfl) (by simp; omega) ?_; clear H; intro v1 W4 H; have hv1 := hide (H.one (.head _)))); refine hK.out _ _ (fun hlt => hSof.out _ _ H (.tail _ (.head _)) (.tail _ (.tail _ (.tail _ (.tail _ (.head _))))) (.tail _ (.tail _ (.tail _ (.tail _ (.tail _ (.tail _ (.tail _ (.head _))))))))) ?_; clear hK K'; refine wpAnyM_one (i := 8) rfl (by kernel_rfl) ?_; intro K' hK; go_wp2_with (fail); refine hK.out _ _ (fun hlt => absurd hlt (by omega)) ?_; clear hK K'; refine wpAnyM_one (i := 9) rfl (by kernel_rfl) ?_; intro K' hK; go_wp2_with (first | (refine wp_stbox (H.pull (l1 := [_, _, _, _])) rfl _ _ _ rfl 0 rfl v1 rfl [v1] (by obtain ⟨_, _, e⟩ := hv1.out; rw [e]; rfl) (by kernel_rfl) (by obtain ⟨_, _, e⟩ := hv1.out; rw [e]; rfl) (Nat.le_of_ble_eq_true rfl) [v1, vs, ve] rfl ?_; clear H hS; intro W5 H)); refine hK.out _ _ (fun hlt => absurd hlt (by omega)) ?_; clear hK K'; refine wpAnyM_done (by kernel_rfl) ?_ _; replace H := (H.push (l1 := [_, _, _, _])).pull1
          have hst : Hid (∀ W, Row wyR W (· < W.heap.size) A4 r.ways → Calls Try.prog 40 #[.agg #[.string (bs r.name), .slice A2 r.nets.length n2, .slice A3 r.links.length n3, .slice A4 r.ways.length n4, .int .i64 r.at_], .agg #[.int .u32 a, .int .i64 b]] W
              fun e W' => e = .returned (.tuple #[.string (bs (staticB ⟨a, b⟩ r.ways).1), .bool (decide (0 ≤ (staticB ⟨a, b⟩ r.ways).2))]) ∧ Mem W W' [] []) := fun W h => static_calls h _ _ _ _ a b
          have hway : Hid (wayB ⟨a, b⟩ rs r = if 0 ≤ (staticB ⟨a, b⟩ r.ways).2 then (atN rs rs.length (staticB ⟨a, b⟩ r.ways).1).getD (-1) else -1) := rfl; have hvk := static_oks ⟨a, b⟩ r.ways hrv; generalize staticB ⟨a, b⟩ r.ways = s at hst hway hvk; obtain ⟨sv, sb⟩ := s; simp only at hst hway hvk; have hway := hide (show wayB ⟨a, b⟩ rs r = if 0 ≤ sb then (atN rs rs.length sv).getD (-1) else -1 from hway.out); have x0 := (H.boxcell (.head _) 0 _ rfl).1; have x1 := (H.boxcell (.head _) 1 _ rfl).1; have x2 := (H.boxcell (.head _) 2 _ rfl).1; have x3 := (H.boxcell (.head _) 3 _ rfl).1; have x4 := (H.boxcell (.head _) 4 _ rfl).1; have z0 := (H.boxcell (.tail _ (.tail _ (.tail _ (.tail _ (.tail _ (.tail _ (.tail _ (.head _)))))))) 0 _ rfl).1; have z1 := (H.boxcell (.tail _ (.tail _ (.tail _ (.tail _ (.tail _ (.tail _ (.tail _ (.head _)))))))) 1 _ rfl).1; generalize hf : atN rs rs.length sv = f0 at hway; have hway := hide (show wayB ⟨a, b⟩ rs r = if decide (0 ≤ sb) = true then f0.getD (-1) else -1 by rw [hway.out]; simp); generalize decide (0 ≤ sb) = b0 at hway hst
          go_upto_region 15 with (first
            | (go_at_call 40; refine (hst.out _ (H.arg hways)).mono ?_; rintro e W6 ⟨rfl, hm⟩; replace H := H.call hm)
            | ((with_reducible refine gate_dst (N := 62) rfl ?_); refine wp_lookup skeys (.tail _ (.tail _ (.tail _ (.tail _ (.tail _ (.head _)))))) H rfl _ _ _ rfl Try.underlying102 (z := .int .i64 0) (fun _ => by rfl) rfl sv rfl hvk ?_))
          go_cut [68] from 41 to 127 (fun v68 W => v68 = .bool (b0 && f0.isSome) ∧ Mem w W [] [box gr 91 [.string (bs r.name), .slice A2 r.nets.length n2, .slice A3 r.links.length n3, .slice A4 r.ways.length n4, .int .i64 r.at_], own bool 4 v1 ((rs.take k).map (orgB ⟨a, b⟩) ++ [orgB ⟨a, b⟩ r]), own (int .i64) 3 vs ((rs.take k).map (wayB ⟨a, b⟩ rs)), own (slice edR) 52 ve ((rs.take k).map (edgesB ⟨a, b⟩ ms rs)), box go 32 [v1, vs, ve], mapOf ks (Value.int .i64) oks gm cnt (atN rs rs.length), box (g + 1 + 1) 32 [.slice none 0 0, .slice none 0 0, .slice none 0 0], box (g + 1) 35 [.int .u32 a, .int .i64 b], box g 70 [.slice A0 ms.length c0, .slice (some ad) rs.length c1]])
          case first =>
            cases b0
            all_goals
              go_wp2; go_meet; exact ⟨by simp, H⟩
          case rest =>
            clear H x0 x1 x2 x3 x4 z0 z1; obtain ⟨rfl, H⟩ := hcut; go_upto_if 68 with (fail); go_cut [11] from 41 to 127 (fun v11 W => v11 = .int .i64 (wayB ⟨a, b⟩ rs r) ∧ Mem w W [] [box gr 91 [.string (bs r.name), .slice A2 r.nets.length n2, .slice A3 r.links.length n3, .slice A4 r.ways.length n4, .int .i64 r.at_], own bool 4 v1 ((rs.take k).map (orgB ⟨a, b⟩) ++ [orgB ⟨a, b⟩ r]), own (int .i64) 3 vs ((rs.take k).map (wayB ⟨a, b⟩ rs)), own (slice edR) 52 ve ((rs.take k).map (edgesB ⟨a, b⟩ ms rs)), box go 32 [v1, vs, ve], mapOf ks (Value.int .i64) oks gm cnt (atN rs rs.length), box (g + 1 + 1) 32 [.slice none 0 0, .slice none 0 0, .slice none 0 0], box (g + 1) 35 [.int .u32 a, .int .i64 b], box g 70 [.slice A0 ms.length c0, .slice (some ad) rs.length c1]])
            case first =>
              cases b0
              · have hway := hide (show wayB ⟨a, b⟩ rs r = -1 from hway.out)
                rw [Bool.false_and]; go_wp2; go_meet; exact ⟨by rw [hway.out], H⟩
              · have hway := hide (show wayB ⟨a, b⟩ rs r = f0.getD (-1) from hway.out)
                clear hf; rw [Bool.true_and]; cases f0
                all_goals
                  simp only [Option.isSome_some, Option.isSome_none]; go_wp2; go_meet; exact ⟨by rw [hway.out]; rfl, H⟩
            case rest =>
              clear H; obtain ⟨rfl, H⟩ := hcut; have x0 := (H.boxcell (.head _) 0 _ rfl).1; have x1 := (H.boxcell (.head _) 1 _ rfl).1; have x2 := (H.boxcell (.head _) 2 _ rfl).1; have x3 := (H.boxcell (.head _) 3 _ rfl).1; have x4 := (H.boxcell (.head _) 4 _ rfl).1; have y0 := (H.boxcell (.tail _ (.tail _ (.tail _ (.tail _ (.head _))))) 0 _ rfl).1; have y1 := (H.boxcell (.tail _ (.tail _ (.tail _ (.tail _ (.head _))))) 1 _ rfl).1; have y2 := (H.boxcell (.tail _ (.tail _ (.tail _ (.tail _ (.head _))))) 2 _ rfl).1
              go_wp2_with (first
                | ((with_reducible refine gate_dst (N := 74) rfl ?_); refine wp_append (H.pull (l1 := [_, _])) rfl _ _ _ (.int .i64 0) 8 rfl Try.underlying29 info_int rfl (by decide) (by decide) (wayB ⟨a, b⟩ rs r) [.int .i64 (wayB ⟨a, b⟩ rs r)] rfl rfl (fun _ _ => rfl) (by simp; omega) ?_; clear H x0 x1 x2 x3 x4 y0 y1 y2; intro v2 W7 H; have hv2 := hide (H.one (.head _)))
                | (refine wp_stbox (H.pull (l1 := [_, _, _, _])) rfl _ _ _ rfl 1 rfl v2 rfl [v2] (by obtain ⟨_, _, e⟩ := hv2.out; rw [e]; rfl) (by kernel_rfl) (by obtain ⟨_, _, e⟩ := hv2.out; rw [e]; rfl) (Nat.le_of_ble_eq_true rfl) [v1, v2, ve] rfl ?_; clear H; intro W8 H; have x0 := (H.boxcell (.tail _ (.tail _ (.head _))) 0 _ rfl).1; have x1 := (H.boxcell (.tail _ (.tail _ (.head _))) 1 _ rfl).1; have x2 := (H.boxcell (.tail _ (.tail _ (.head _))) 2 _ rfl).1; have x3 := (H.boxcell (.tail _ (.tail _ (.head _))) 3 _ rfl).1; have x4 := (H.boxcell (.tail _ (.tail _ (.head _))) 4 _ rfl).1))
              replace H := H.nilItem edR 51; have hll := hlinks.len; unfold maxLen at hll; go_loopw [16, 79] (fun v16 v79 W => ∃ j : Nat, j ≤ r.links.length ∧ v79 = .int .i64 j ∧ Mem w W [] [own edR 51 v16 ((r.links.take j).filterMap (edgeB ⟨a, b⟩ ms rs r)), box go 32 [v1, v2, ve], own (int .i64) 3 v2 ((rs.take k).map (wayB ⟨a, b⟩ rs) ++ [wayB ⟨a, b⟩ rs r]), box gr 91 [.string (bs r.name), .slice A2 r.nets.length n2, .slice A3 r.links.length n3, .slice A4 r.ways.length n4, .int .i64 r.at_], own bool 4 v1 ((rs.take k).map (orgB ⟨a, b⟩) ++ [orgB ⟨a, b⟩ r]), own (slice edR) 52 ve ((rs.take k).map (edgesB ⟨a, b⟩ ms rs)), mapOf ks (Value.int .i64) oks gm cnt (atN rs rs.length), box (g + 1 + 1) 32 [.slice none 0 0, .slice none 0 0, .slice none 0 0], box (g + 1) 35 [.int .u32 a, .int .i64 b], box g 70 [.slice A0 ms.length c0, .slice (some ad) rs.length c1]]) (fun _ v79 _ => r.links.length - (intOf v79).toNat)
              case atStart => exact ⟨0, Nat.zero_le _, rfl, H⟩
              case round =>
                clear H x0 x1 x2 x3 x4; obtain ⟨j, hj, rfl, H⟩ := hrel; by_cases hjl : j < r.links.length
                · obtain ⟨l, hlj⟩ : ∃ l, r.links[j]? = some l := ⟨_, List.getElem?_eq_getElem hjl⟩
                  have hlo := hrp l (List.mem_of_getElem? hlj); obtain ⟨al, rfl, hxl⟩ := hlinks.flat1 hlj; have hxl := hide (oldcells H (cs := [.string (bs l.peer), .int .i64 l.cost, .string (bs l.imp), .string (bs l.exp), .int .i64 l.at_]) hxl)
                  go_upto_region 23 with (first
                    | ((with_reducible refine gate_dst (N := 82) rfl ?_); refine wp_ldcells [.string (bs l.peer), .int .i64 l.cost, .string (bs l.imp), .string (bs l.exp), .int .i64 l.at_] hxl.out rfl _ _ rfl rfl _ Try.underlying95 rfl (by kernel_rfl) ?_)
                    | ((with_reducible refine gate_dst (N := 18) rfl ?_); refine wp_alloc H rfl _ rfl _ info_lk _ rfl ?_; clear H hxl; intro gl W9 H)
                    | (refine wp_stbox H rfl _ _ _ rfl 0 rfl _ rfl _ rfl (by kernel_rfl) rfl (Nat.le_of_ble_eq_true rfl) [.string (bs l.peer), .int .i64 l.cost, .string (bs l.imp), .string (bs l.exp), .int .i64 l.at_] rfl ?_; clear H; intro W10 H; have x0 := (H.boxcell (.head _) 0 _ rfl).1; have x1 := (H.boxcell (.head _) 1 _ rfl).1; have x2 := (H.boxcell (.head _) 2 _ rfl).1; have x3 := (H.boxcell (.head _) 3 _ rfl).1; have x4 := (H.boxcell (.head _) 4 _ rfl).1)
                    | ((with_reducible refine gate_dst (N := 87) rfl ?_); refine wp_lookup skeys (.tail _ (.tail _ (.tail _ (.tail _ (.tail _ (.tail _ (.tail _ (.head _)))))))) H rfl _ _ _ rfl Try.underlying102 (z := .int .i64 0) (fun _ => by rfl) rfl l.peer rfl hlo ?_))
                  have hsn := hide (take_filterMap (edgeB ⟨a, b⟩ ms rs r) r.links j l hlj)
                  cases hk2 : atN rs rs.length l.peer with
                  | none =>
                    (have hnx : Hid ((r.links.take (j + 1)).filterMap (edgeB ⟨a, b⟩ ms rs r) = (r.links.take j).filterMap (edgeB ⟨a, b⟩ ms rs r)) := by rw [Hid, hsn.out]; simp [edgeB, hk2]); go_wp2; go_roundw
                    case rel => exact ⟨j + 1, by omega, by go_num, by rw [hnx.out]; exact H.drop⟩
                    case measure => simp [intOf]; omega
                  | some q =>
                    obtain ⟨kq, hq1, rfl⟩ := atN_lt rs rs.length l.peer q hk2; obtain ⟨r2, hr2⟩ : ∃ r2, rs[kq]? = some r2 := ⟨_, List.getElem?_eq_getElem hq1⟩; obtain ⟨_, B2, p2, B3, p3, B4, p4, e, hx2, -, hlinks2, -⟩ := hr.rt1 hr2; cases e; have hx2 := hide hx2; have hkq0 : 0 ≤ (kq : Int) := by omega
                    have hfe : Hid (edgeB ⟨a, b⟩ ms rs r l = some ⟨kq, l.cost, clausesB ms ((peerB r2.links r.name).getD lk0).exp ⟨a, b⟩, clausesB ms l.imp ⟨a, b⟩⟩) := by
                      rw [Hid, edgeB, hk2]; simp [hr2]
                    have hpc : Hid (∀ W, Row lkR W (· < W.heap.size) B3 r2.links → Calls Try.prog 41 #[.agg #[.string (bs r2.name), .slice B2 r2.nets.length p2, .slice B3 r2.links.length p3, .slice B4 r2.ways.length p4, .int .i64 r2.at_], .string (bs r.name)] W
                        fun e W' => e = .returned (.tuple #[.agg ((peerB r2.links r.name).getD lk0).enc.toArray, .bool (peerB r2.links r.name).isSome]) ∧ Mem W W' [] []) := fun W h => peer_calls h _ _ _ _ r.name
                    generalize (peerB r2.links r.name).getD lk0 = pk at hpc hfe; generalize (peerB r2.links r.name).isSome = pb at hpc; obtain ⟨pp, pc, pi, pe, pa⟩ := pk
                    have hpc : Hid (∀ W, Row lkR W (· < W.heap.size) B3 r2.links → Calls Try.prog 41 #[.agg #[.string (bs r2.name), .slice B2 r2.nets.length p2, .slice B3 r2.links.length p3, .slice B4 r2.ways.length p4, .int .i64 r2.at_], .string (bs r.name)] W
                        fun e W' => e = .returned (.tuple #[.agg #[.string (bs pp), .int .i64 pc, .string (bs pi), .string (bs pe), .int .i64 pa], .bool pb]) ∧ Mem W W' [] []) := hpc
                    have hfe : Hid (edgeB ⟨a, b⟩ ms rs r l = some ⟨kq, l.cost, clausesB ms pe ⟨a, b⟩, clausesB ms l.imp ⟨a, b⟩⟩) := hfe
                    have hS24 : Hid (∀ W' l', Mem w W' [] l' → box gr 91 [.string (bs r.name), .slice A2 r.nets.length n2, .slice (some al) r.links.length n3, .slice A4 r.ways.length n4, .int .i64 r.at_] ∈ l' → box g 70 [.slice A0 ms.length c0, .slice (some ad) rs.length c1] ∈ l' → (W'.cell? ⟨g, 1, none⟩ = some (.slice (some ad) rs.length c1) ∧ W'.cell? ⟨gr, 0, none⟩ = some (.string (bs r.name)) ∧ (∀ (j : Nat) u, ([.string (bs r2.name), .slice B2 r2.nets.length p2, .slice B3 r2.links.length p3, .slice B4 r2.ways.length p4, .int .i64 r2.at_] : List Value)[j]? = some u → W'.cell? (ad.add (kq * 5 + j)) = some u))) := fun W' l' h h1 h2 =>
                      ⟨(h.boxcell h2 1 _ rfl).1, (h.boxcell h1 0 _ rfl).1, oldcells h hx2.out⟩
                    clear hx2 x0 x1 x2 x3 x4; go_upto_region 24 with (fail); go_cut [21, 22] from 80 to 120 (fun v21 v22 W => ∃ gb : Nat, v21 = .pointer (some ⟨gb, 0, none⟩) ∧ Mem w W [] (box gb 95 [.string (bs pp), .int .i64 pc, .string (bs pi), .string (bs pe), .int .i64 pa] :: box gl 95 [.string (bs l.peer), .int .i64 l.cost, .string (bs l.imp), .string (bs l.exp), .int .i64 l.at_] :: [own edR 51 u16 ((r.links.take j).filterMap (edgeB ⟨a, b⟩ ms rs r)), box go 32 [v1, v2, ve], own (int .i64) 3 v2 ((rs.take k).map (wayB ⟨a, b⟩ rs) ++ [wayB ⟨a, b⟩ rs r]), box gr 91 [.string (bs r.name), .slice A2 r.nets.length n2, .slice (some al) r.links.length n3, .slice A4 r.ways.length n4, .int .i64 r.at_], own bool 4 v1 ((rs.take k).map (orgB ⟨a, b⟩) ++ [orgB ⟨a, b⟩ r]), own (slice edR) 52 ve ((rs.take k).map (edgesB ⟨a, b⟩ ms rs)), mapOf ks (Value.int .i64) oks gm cnt (atN rs rs.length), box (g + 1 + 1) 32 [.slice none 0 0, .slice none 0 0, .slice none 0 0], box (g + 1) 35 [.int .u32 a, .int .i64 b], box g 70 [.slice A0 ms.length c0, .slice (some ad) rs.length c1]]))
                    case first =>
                      refine wp_region_mix 13 (fun W' => (W'.cell? ⟨g, 1, none⟩ = some (.slice (some ad) rs.length c1) ∧ W'.cell? ⟨gr, 0, none⟩ = some (.string (bs r.name)) ∧ (∀ (j : Nat) u, ([.string (bs r2.name), .slice B2 r2.nets.length p2, .slice B3 r2.links.length p3, .slice B4 r2.ways.length p4, .int .i64 r2.at_] : List Value)[j]? = some u → W'.cell? (ad.add (kq * 5 + j)) = some u))) (by kernel_rfl) ?_; replace H := H.drew; have hS := hS24.out _ _ H (by simp) (by simp); refine wpAnyM_take (i := 0) (v := ?_) rfl (by kernel_rfl) (by kernel_rfl) (by kernel_rfl) (by kernel_rfl) (fun _ _ _ h => h) hS (Or.inl ⟨by rfl, ?_⟩) ?_; rotate_left
                      · intro w1 hS1
                        (try dsimp only at hS1); go_simp; try with_reducible rfl
                      simp only [Act.put, List.getElem_toArray, List.getElem_cons_succ, List.getElem_cons_zero, List.setIfInBounds_toArray, List.set_cons_zero, List.set_cons_succ]; refine wpAnyM_take (i := 1) (v := ?_) rfl (by kernel_rfl) (by kernel_rfl) (by kernel_rfl) (by kernel_rfl) (fun _ _ _ h => h) hS (Or.inl ⟨by rfl, ?_⟩) ?_; rotate_left
                      · intro w1 hS1
                        (try dsimp only at hS1); go_simp; try with_reducible rfl
                      simp only [Act.put, List.getElem_toArray, List.getElem_cons_succ, List.getElem_cons_zero, List.setIfInBounds_toArray, List.set_cons_zero, List.set_cons_succ]; refine wpAnyM_take (i := 2) (v := ?_) rfl (by kernel_rfl) (by kernel_rfl) (by kernel_rfl) (by kernel_rfl) (fun _ _ _ h => h) hS (Or.inl ⟨by rfl, ?_⟩) ?_; rotate_left
                      · intro w1 hS1
                        (try dsimp only at hS1); go_simp; try with_reducible rfl
                      simp only [Act.put, List.getElem_toArray, List.getElem_cons_succ, List.getElem_cons_zero, List.setIfInBounds_toArray, List.set_cons_zero, List.set_cons_succ]; refine wpAnyM_take (i := 3) (v := ?_) rfl (by kernel_rfl) (by kernel_rfl) (by kernel_rfl) (by kernel_rfl) (fun _ _ _ h => h) hS (Or.inl ⟨by rfl, ?_⟩) ?_; rotate_left
                      · intro w1 hS1
                        (try dsimp only at hS1); go_simp; try with_reducible rfl
                      simp only [Act.put, List.getElem_toArray, List.getElem_cons_succ, List.getElem_cons_zero, List.setIfInBounds_toArray, List.set_cons_zero, List.set_cons_succ]; refine wpAnyM_take (i := 4) (v := .agg #[.string (bs r2.name), .slice B2 r2.nets.length p2, .slice B3 r2.links.length p3, .slice B4 r2.ways.length p4, .int .i64 r2.at_]) rfl (by kernel_rfl) (by kernel_rfl) (by kernel_rfl) (by kernel_rfl) (fun _ _ _ h => h) hS (Or.inl ⟨by rfl, ?_⟩) ?_
                      · intro w1 hS1
                        exact run_ldcells [.string (bs r2.name), .slice B2 r2.nets.length p2, .slice B3 r2.links.length p3, .slice B4 r2.ways.length p4, .int .i64 r2.at_] hS1.2.2 _ _ rfl rfl _ Try.underlying91 rfl (by kernel_rfl)
                      simp only [Act.put, List.setIfInBounds_toArray, List.set_cons_zero, List.set_cons_succ]; refine wpAnyM_take (i := 5) (v := ?_) rfl (by kernel_rfl) (by kernel_rfl) (by kernel_rfl) (by kernel_rfl) (fun _ _ _ h => h) hS (Or.inl ⟨by rfl, ?_⟩) ?_; rotate_left
                      · intro w1 hS1
                        (try dsimp only at hS1); go_simp; try with_reducible rfl
                      simp only [Act.put, List.getElem_toArray, List.getElem_cons_succ, List.getElem_cons_zero, List.setIfInBounds_toArray, List.set_cons_zero, List.set_cons_succ]; refine wpAnyM_take (i := 6) (v := ?_) rfl (by kernel_rfl) (by kernel_rfl) (by kernel_rfl) (by kernel_rfl) (fun _ _ _ h => h) hS (Or.inl ⟨by rfl, ?_⟩) ?_; rotate_left
                      · intro w1 hS1
                        (try dsimp only at hS1); go_simp; try with_reducible rfl
                      simp only [Act.put, List.getElem_toArray, List.getElem_cons_succ, List.getElem_cons_zero, List.setIfInBounds_toArray, List.set_cons_zero, List.set_cons_succ]; refine wpAnyM_two (i := 7) (j := 11) rfl rfl (by kernel_rfl) ?_ ?_
                      · intro K' hK
                        go_wp2_with (go_at_call 41; refine (hpc.out _ (H.arg hlinks2)).mono ?_; rintro e W6 ⟨rfl, hm⟩; replace H := H.call hm); refine hK.out _ _ (fun hlt => hS24.out _ _ H (by simp) (by simp)) ?_; clear hK K'; have hS := hS24.out _ _ H (by simp) (by simp); refine wpAnyM_take (i := 8) (v := ?_) rfl (by kernel_rfl) (by kernel_rfl) (by kernel_rfl) (by kernel_rfl) (fun _ _ _ h => h) hS (Or.inl ⟨by rfl, ?_⟩) ?_; rotate_left
                        · intro w1 hS1
                          (try dsimp only at hS1); go_simp; try with_reducible rfl
                        simp only [Act.put, List.getElem_toArray, List.getElem_cons_succ, List.getElem_cons_zero, List.setIfInBounds_toArray, List.set_cons_zero, List.set_cons_succ]; refine wpAnyM_take (i := 9) (v := ?_) rfl (by kernel_rfl) (by kernel_rfl) (by kernel_rfl) (by kernel_rfl) (fun _ _ _ h => h) hS (Or.inl ⟨by rfl, ?_⟩) ?_; rotate_left
                        · intro w1 hS1
                          (try dsimp only at hS1); go_simp; try with_reducible rfl
                        simp only [Act.put, List.getElem_toArray, List.getElem_cons_succ, List.getElem_cons_zero, List.setIfInBounds_toArray, List.set_cons_zero, List.set_cons_succ]; refine wpAnyM_take (i := 10) (v := ?_) rfl (by kernel_rfl) (by kernel_rfl) (by kernel_rfl) (by kernel_rfl) (fun _ _ _ h => h) hS (Or.inl ⟨by rfl, ?_⟩) ?_; rotate_left
                        · intro w1 hS1
                          (try dsimp only at hS1); go_simp; try with_reducible rfl
                        simp only [Act.put, List.getElem_toArray, List.getElem_cons_succ, List.getElem_cons_zero, List.setIfInBounds_toArray, List.set_cons_zero, List.set_cons_succ]; refine wpAnyM_one (i := 11) rfl (by kernel_rfl) ?_; intro K' hK; go_wp2_with (((with_reducible refine gate_dst (N := 21) rfl ?_); refine wp_alloc H rfl _ rfl _ info_lk _ rfl ?_; clear H; intro gb W4 H)); refine hK.out _ _ (fun hlt => hS24.out _ _ H (by simp) (by simp)) ?_; clear hK K'; refine wpAnyM_one (i := 12) rfl (by kernel_rfl) ?_; intro K' hK; go_wp2_with ((refine wp_stbox H rfl _ _ _ rfl 0 rfl _ rfl _ rfl (by kernel_rfl) rfl (Nat.le_of_ble_eq_true rfl) [.string (bs pp), .int .i64 pc, .string (bs pi), .string (bs pe), .int .i64 pa] rfl ?_; clear H; intro W5 H)); refine hK.out _ _ (fun hlt => hS24.out _ _ H (by simp) (by simp)) ?_; clear hK K'; refine wpAnyM_one (i := 13) rfl (by kernel_rfl) ?_; intro K' hK; go_wp2_with (fail); refine hK.out _ _ (fun hlt => absurd hlt (by omega)) ?_; clear hK K'; refine wpAnyM_done (by kernel_rfl) ?_ _; go_wp2; go_meet; exact ⟨_, rfl, H⟩
                      · intro K' hK
                        go_wp2_with ((with_reducible refine gate_dst (N := 21) rfl ?_); refine wp_alloc H rfl _ rfl _ info_lk _ rfl ?_; clear H; intro gb W4 H); refine hK.out _ _ (fun hlt => hS24.out _ _ H (by simp) (by simp)) ?_; clear hK K'; refine wpAnyM_one (i := 7) rfl (by kernel_rfl) ?_; intro K' hK; go_wp2_with ((go_at_call 41; refine (hpc.out _ (H.arg hlinks2)).mono ?_; rintro e W6 ⟨rfl, hm⟩; replace H := H.call hm)); refine hK.out _ _ (fun hlt => hS24.out _ _ H (by simp) (by simp)) ?_; clear hK K'; have hS := hS24.out _ _ H (by simp) (by simp); refine wpAnyM_take (i := 8) (v := ?_) rfl (by kernel_rfl) (by kernel_rfl) (by kernel_rfl) (by kernel_rfl) (fun _ _ _ h => h) hS (Or.inl ⟨by rfl, ?_⟩) ?_; rotate_left
                        · intro w1 hS1
                          (try dsimp only at hS1); go_simp; try with_reducible rfl
                        simp only [Act.put, List.getElem_toArray, List.getElem_cons_succ, List.getElem_cons_zero, List.setIfInBounds_toArray, List.set_cons_zero, List.set_cons_succ]; refine wpAnyM_take (i := 9) (v := ?_) rfl (by kernel_rfl) (by kernel_rfl) (by kernel_rfl) (by kernel_rfl) (fun _ _ _ h => h) hS (Or.inl ⟨by rfl, ?_⟩) ?_; rotate_left
                        · intro w1 hS1
                          (try dsimp only at hS1); go_simp; try with_reducible rfl
                        simp only [Act.put, List.getElem_toArray, List.getElem_cons_succ, List.getElem_cons_zero, List.setIfInBounds_toArray, List.set_cons_zero, List.set_cons_succ]; refine wpAnyM_take (i := 10) (v := ?_) rfl (by kernel_rfl) (by kernel_rfl) (by kernel_rfl) (by kernel_rfl) (fun _ _ _ h => h) hS (Or.inl ⟨by rfl, ?_⟩) ?_; rotate_left
                        · intro w1 hS1
                          (try dsimp only at hS1); go_simp; try with_reducible rfl
                        simp only [Act.put, List.getElem_toArray, List.getElem_cons_succ, List.getElem_cons_zero, List.setIfInBounds_toArray, List.set_cons_zero, List.set_cons_succ]; refine wpAnyM_one (i := 12) rfl (by kernel_rfl) ?_; intro K' hK; go_wp2_with ((refine wp_stbox H rfl _ _ _ rfl 0 rfl _ rfl _ rfl (by kernel_rfl) rfl (Nat.le_of_ble_eq_true rfl) [.string (bs pp), .int .i64 pc, .string (bs pi), .string (bs pe), .int .i64 pa] rfl ?_; clear H; intro W5 H)); refine hK.out _ _ (fun hlt => hS24.out _ _ H (by simp) (by simp)) ?_; clear hK K'; refine wpAnyM_one (i := 13) rfl (by kernel_rfl) ?_; intro K' hK; go_wp2_with (fail); refine hK.out _ _ (fun hlt => absurd hlt (by omega)) ?_; clear hK K'; refine wpAnyM_done (by kernel_rfl) ?_ _; go_wp2; go_meet; exact ⟨_, rfl, H⟩
                    case rest =>
                      clear H; obtain ⟨gb, rfl, H⟩ := hcut
                      have hS25 : Hid (∀ W' R' l', MemM (fun _ => False) (fun _ => False) w W' R' l' → box gb 95 [.string (bs pp), .int .i64 pc, .string (bs pi), .string (bs pe), .int .i64 pa] ∈ l' → box gl 95 [.string (bs l.peer), .int .i64 l.cost, .string (bs l.imp), .string (bs l.exp), .int .i64 l.at_] ∈ l' → box (g + 1) 35 [.int .u32 a, .int .i64 b] ∈ l' → box g 70 [.slice A0 ms.length c0, .slice (some ad) rs.length c1] ∈ l' → (W'.cell? ⟨gl, 1, none⟩ = some (.int .i64 l.cost) ∧ W'.cell? ⟨gl, 2, none⟩ = some (.string (bs l.imp)) ∧ W'.cell? ⟨gb, 3, none⟩ = some (.string (bs pe)) ∧ W'.cell? ⟨g, 0, none⟩ = some (.slice A0 ms.length c0) ∧ W'.cell? ⟨g, 1, none⟩ = some (.slice (some ad) rs.length c1) ∧ W'.cell? ⟨g + 1, 0, none⟩ = some (.int .u32 a) ∧ W'.cell? ⟨g + 1, 1, none⟩ = some (.int .i64 b))) := fun W' R' l' h h1 h2 h3 h4 =>
                        ⟨(h.boxcell h2 1 _ rfl).1, (h.boxcell h2 2 _ rfl).1, (h.boxcell h1 3 _ rfl).1, (h.boxcell h4 0 _ rfl).1, (h.boxcell h4 1 _ rfl).1, (h.boxcell h3 0 _ rfl).1, (h.boxcell h3 1 _ rfl).1⟩
                      (have hcc : Hid (∀ W (name : Str), Row mpR W (· < W.heap.size) A0 ms → Calls Try.prog 42 #[.agg #[.slice A0 ms.length c0, .slice (some ad) rs.length c1], .string (bs name), .agg #[.int .u32 a, .int .i64 b]] W fun e W' => ∃ v, e = .returned v ∧ Mem W W' [] [own clR 116 v (clausesB ms name ⟨a, b⟩)]) := fun W name h => clauses_calls h hcl _ rfl name a b); have hfl : ((r.links.take j).filterMap (edgeB ⟨a, b⟩ ms rs r)).length ≤ 1000000000 := Nat.le_trans (List.length_filterMap_le _ _) (by rw [List.length_take]; omega); have hacc := hide (show (r.links.take (j + 1)).filterMap (edgeB ⟨a, b⟩ ms rs r) = (r.links.take j).filterMap (edgeB ⟨a, b⟩ ms rs r) ++ [⟨kq, l.cost, clausesB ms pe ⟨a, b⟩, clausesB ms l.imp ⟨a, b⟩⟩] by rw [hsn.out, hfe.out]; rfl); clear hsn hfe; go_upto_region 25 with (fail); refine wp_region_mix 17 (fun W' => (W'.cell? ⟨gl, 1, none⟩ = some (.int .i64 l.cost) ∧ W'.cell? ⟨gl, 2, none⟩ = some (.string (bs l.imp)) ∧ W'.cell? ⟨gb, 3, none⟩ = some (.string (bs pe)) ∧ W'.cell? ⟨g, 0, none⟩ = some (.slice A0 ms.length c0) ∧ W'.cell? ⟨g, 1, none⟩ = some (.slice (some ad) rs.length c1) ∧ W'.cell? ⟨g + 1, 0, none⟩ = some (.int .u32 a) ∧ W'.cell? ⟨g + 1, 1, none⟩ = some (.int .i64 b))) (by kernel_rfl) ?_; replace H := H.drew; have hS := hS25.out _ _ _ H (by simp) (by simp) (by simp) (by simp); refine wpAnyM_take (i := 0) (v := ?_) rfl (by kernel_rfl) (by kernel_rfl) (by kernel_rfl) (by kernel_rfl) (fun _ _ _ h => h) hS (Or.inl ⟨by rfl, ?_⟩) ?_; rotate_left
                      · intro w1 hS1
                        (try dsimp only at hS1); go_simp; try with_reducible rfl
                      simp only [Act.put, List.getElem_toArray, List.getElem_cons_succ, List.getElem_cons_zero, List.setIfInBounds_toArray, List.set_cons_zero, List.set_cons_succ]; refine wpAnyM_take (i := 1) (v := ?_) rfl (by kernel_rfl) (by kernel_rfl) (by kernel_rfl) (by kernel_rfl) (fun _ _ _ h => h) hS (Or.inl ⟨by rfl, ?_⟩) ?_; rotate_left
                      · intro w1 hS1
                        (try dsimp only at hS1); go_simp; try with_reducible rfl
                      simp only [Act.put, List.getElem_toArray, List.getElem_cons_succ, List.getElem_cons_zero, List.setIfInBounds_toArray, List.set_cons_zero, List.set_cons_succ]; refine wpAnyM_take (i := 2) (v := ?_) rfl (by kernel_rfl) (by kernel_rfl) (by kernel_rfl) (by kernel_rfl) (fun _ _ _ h => h) hS (Or.inl ⟨by rfl, ?_⟩) ?_; rotate_left
                      · intro w1 hS1
                        (try dsimp only at hS1); go_simp; try with_reducible rfl
                      simp only [Act.put, List.getElem_toArray, List.getElem_cons_succ, List.getElem_cons_zero, List.setIfInBounds_toArray, List.set_cons_zero, List.set_cons_succ]; refine wpAnyM_take (i := 3) (v := ?_) rfl (by kernel_rfl) (by kernel_rfl) (by kernel_rfl) (by kernel_rfl) (fun _ _ _ h => h) hS (Or.inl ⟨by rfl, ?_⟩) ?_; rotate_left
                      · intro w1 hS1
                        (try dsimp only at hS1); go_simp; try with_reducible rfl
                      simp only [Act.put, List.getElem_toArray, List.getElem_cons_succ, List.getElem_cons_zero, List.setIfInBounds_toArray, List.set_cons_zero, List.set_cons_succ]; refine wpAnyM_take (i := 4) (v := ?_) rfl (by kernel_rfl) (by kernel_rfl) (by kernel_rfl) (by kernel_rfl) (fun _ _ _ h => h) hS (Or.inl ⟨by rfl, ?_⟩) ?_; rotate_left
                      · intro w1 hS1
                        (try dsimp only at hS1); go_simp; try with_reducible rfl
                      simp only [Act.put, List.getElem_toArray, List.getElem_cons_succ, List.getElem_cons_zero, List.setIfInBounds_toArray, List.set_cons_zero, List.set_cons_succ]; refine wpAnyM_take (i := 5) (v := ?_) rfl (by kernel_rfl) (by kernel_rfl) (by kernel_rfl) (by kernel_rfl) (fun _ _ _ h => h) hS (Or.inl ⟨by rfl, ?_⟩) ?_; rotate_left
                      · intro w1 hS1
                        (try dsimp only at hS1); go_simp; try with_reducible rfl
                      simp only [Act.put, List.getElem_toArray, List.getElem_cons_succ, List.getElem_cons_zero, List.setIfInBounds_toArray, List.set_cons_zero, List.set_cons_succ]; refine wpAnyM_take (i := 6) (v := ?_) rfl (by kernel_rfl) (by kernel_rfl) (by kernel_rfl) (by kernel_rfl) (fun _ _ _ h => h) hS (Or.inl ⟨by rfl, ?_⟩) ?_; rotate_left
                      · intro w1 hS1
                        (try dsimp only at hS1); go_simp; try with_reducible rfl
                      simp only [Act.put, List.getElem_toArray, List.getElem_cons_succ, List.getElem_cons_zero, List.setIfInBounds_toArray, List.set_cons_zero, List.set_cons_succ]; refine wpAnyM_take (i := 7) (v := ?_) rfl (by kernel_rfl) (by kernel_rfl) (by kernel_rfl) (by kernel_rfl) (fun _ _ _ h => h) hS (Or.inl ⟨by rfl, ?_⟩) ?_; rotate_left
                      · intro w1 hS1
                        (try dsimp only at hS1); go_simp; try with_reducible rfl
                      simp only [Act.put, List.getElem_toArray, List.getElem_cons_succ, List.getElem_cons_zero, List.setIfInBounds_toArray, List.set_cons_zero, List.set_cons_succ]; refine wpAnyM_take (i := 9) (v := ?_) rfl (by kernel_rfl) (by kernel_rfl) (by kernel_rfl) (by kernel_rfl) (fun _ _ _ h => h) hS (Or.inl ⟨by rfl, ?_⟩) ?_; rotate_left
                      · intro w1 hS1
                        (try dsimp only at hS1); go_simp; try with_reducible rfl
                      simp only [Act.put, List.getElem_toArray, List.getElem_cons_succ, List.getElem_cons_zero, List.setIfInBounds_toArray, List.set_cons_zero, List.set_cons_succ]; refine wpAnyM_take (i := 10) (v := ?_) rfl (by kernel_rfl) (by kernel_rfl) (by kernel_rfl) (by kernel_rfl) (fun _ _ _ h => h) hS (Or.inl ⟨by rfl, ?_⟩) ?_; rotate_left
                      · intro w1 hS1
                        (try dsimp only at hS1); go_simp; try with_reducible rfl
                      simp only [Act.put, List.getElem_toArray, List.getElem_cons_succ, List.getElem_cons_zero, List.setIfInBounds_toArray, List.set_cons_zero, List.set_cons_succ]; refine wpAnyM_take (i := 11) (v := ?_) rfl (by kernel_rfl) (by kernel_rfl) (by kernel_rfl) (by kernel_rfl) (fun _ _ _ h => h) hS (Or.inl ⟨by rfl, ?_⟩) ?_; rotate_left
                      · intro w1 hS1
                        (try dsimp only at hS1); go_simp; try with_reducible rfl
                      simp only [Act.put, List.getElem_toArray, List.getElem_cons_succ, List.getElem_cons_zero, List.setIfInBounds_toArray, List.set_cons_zero, List.set_cons_succ]; refine wpAnyM_take (i := 12) (v := ?_) rfl (by kernel_rfl) (by kernel_rfl) (by kernel_rfl) (by kernel_rfl) (fun _ _ _ h => h) hS (Or.inl ⟨by rfl, ?_⟩) ?_; rotate_left
                      · intro w1 hS1
                        (try dsimp only at hS1); go_simp; try with_reducible rfl
                      simp only [Act.put, List.getElem_toArray, List.getElem_cons_succ, List.getElem_cons_zero, List.setIfInBounds_toArray, List.set_cons_zero, List.set_cons_succ]; refine wpAnyM_one (i := 8) rfl (by kernel_rfl) ?_; intro K' hK; go_wp2_with (go_at_call 42; refine (hcc.out _ pe (H.arg hmr)).mono ?_; rintro e W6 ⟨x3, rfl, hm3⟩; replace H := H.call hm3; clear hm3; obtain ⟨B5, p5, rfl, hp5, H1⟩ := MemM.still H; clear H; have H := H1; clear H1); refine hK.out _ _ (fun hlt => hS25.out _ _ _ H (by simp) (by simp) (by simp) (by simp)) ?_; clear hK K'; refine wpAnyM_one (i := 13) rfl (by kernel_rfl) ?_; intro K' hK; go_wp2_with (go_at_call 42; refine (hcc.out _ l.imp (H.arg hmr)).mono ?_; rintro e W6 ⟨x4, rfl, hm4⟩; replace H := H.call hm4; clear hm4; obtain ⟨B6, p6, rfl, hp6, H1⟩ := MemM.still H; clear H; have H := H1; clear H1); refine hK.out _ _ (fun hlt => hS25.out _ _ _ H (by simp) (by simp) (by simp) (by simp)) ?_; clear hK K'; have hS := hS25.out _ _ _ H (by simp) (by simp) (by simp) (by simp); refine wpAnyM_take (i := 14) (v := ?_) rfl (by kernel_rfl) (by kernel_rfl) (by kernel_rfl) (by kernel_rfl) (fun _ _ _ h => h) hS (Or.inl ⟨by rfl, ?_⟩) ?_; rotate_left
                      · intro w1 hS1
                        (try dsimp only at hS1); go_simp; try with_reducible rfl
                      simp only [Act.put, List.getElem_toArray, List.getElem_cons_succ, List.getElem_cons_zero, List.setIfInBounds_toArray, List.set_cons_zero, List.set_cons_succ]; refine wpAnyM_one (i := 15) rfl (by kernel_rfl) ?_; intro K' hK; go_wp2_with (fail); refine hK.out _ _ (fun hlt => hS25.out _ _ _ (H.alloc _) (by simp) (by simp) (by simp) (by simp)) ?_; clear hK K'; refine wpAnyM_one (i := 16) rfl (by kernel_rfl) ?_; intro K' hK; go_wp2_with (first | ((with_reducible refine gate_dst (N := 119) rfl ?_); refine wp_append H.pull2 rfl _ _ _ (.agg #[.int .i64 0, .int .i64 0, .slice none 0 0, .slice none 0 0]) 64 rfl Try.underlying52 info_ed rfl (by decide) (by decide) ⟨kq, l.cost, clausesB ms pe ⟨a, b⟩, clausesB ms l.imp ⟨a, b⟩⟩ [.int .i64 kq, .int .i64 l.cost, .slice B5 (clausesB ms pe ⟨a, b⟩).length p5, .slice B6 (clausesB ms l.imp ⟨a, b⟩).length p6] rfl rfl (fun F hF => ⟨_, _, rfl, rfl, _, _, rfl, rfl, _, _, rfl, ⟨B5, p5, rfl, hp5, row_of_P (hF _ (.tail _ (.head _)))⟩, _, _, rfl, ⟨B6, p6, rfl, hp6, row_of_P (hF _ (.head _))⟩, rfl⟩) (by omega) ?_; clear H; intro v3 W7 H)); refine hK.out _ _ (fun hlt => hS25.out _ _ _ H (by simp) (by simp) (by simp) (by simp)) ?_; clear hK K'; refine wpAnyM_one (i := 17) rfl (by kernel_rfl) ?_; intro K' hK; go_wp2_with (fail); refine hK.out _ _ (fun hlt => absurd hlt (by omega)) ?_; clear hK K'; refine wpAnyM_done (by kernel_rfl) ?_ _; clear hS hS25 hcc; have H := H.noR.pull1.drop.pull1.drop; go_wp2; go_roundw
                      case rel => exact ⟨j + 1, by omega, by go_num, by rw [hacc.out]; exact H⟩
                      case measure => simp [intOf]; omega
                · obtain rfl : j = r.links.length := by omega
                  rw [List.take_length] at H; obtain ⟨A5, p5, rfl, hp5, H1⟩ := MemM.still H; clear H; have H := H1; clear H1; have x0 := (H.boxcell (.head _) 0 _ rfl).1; have x1 := (H.boxcell (.head _) 1 _ rfl).1; have x2 := (H.boxcell (.head _) 2 _ rfl).1
                  go_wp2_with (first
                    | ((with_reducible refine gate_dst (N := 125) rfl ?_); refine wp_append (H.pull (l1 := [_, _, _, _])) rfl _ _ _ (.slice none 0 0) 24 rfl Try.underlying30 info_es rfl (by decide) (by decide) (r.links.filterMap (edgeB ⟨a, b⟩ ms rs r)) [.slice A5 (r.links.filterMap (edgeB ⟨a, b⟩ ms rs r)).length p5] rfl rfl (slK (d := edR) hp5 (.head _)) (by rw [List.length_map, List.length_take]; omega) ?_; clear H x0 x1 x2; intro v3 W7 H; have hv3 := hide (H.one (.head _)))
                    | (refine wp_stbox H.pull1 rfl _ _ _ rfl 2 rfl v3 rfl [v3] (by obtain ⟨_, _, e⟩ := hv3.out; rw [e]; rfl) (by kernel_rfl) (by obtain ⟨_, _, e⟩ := hv3.out; rw [e]; rfl) (Nat.le_of_ble_eq_true rfl) [v1, v2, v3] rfl ?_; clear H; intro W8 H))
                  have H := (((H.noR.pull (l1 := [_, _, _])).drop.pull1).pull2).pull (l1 := [_, _, _]); go_roundw
                  case rel => exact ⟨k + 1, v1, v2, v3, by omega, by go_num, by rw [hto.out, htw.out, hte.out]; exact H⟩
                  case measure => simp [intOf]; omega
        · obtain rfl : k = rs.length := by omega
          rw [List.take_length] at H
          obtain ⟨A6, n6, p6, rfl⟩ : ∃ A n c, ve = .slice A n c := by
            obtain ⟨A, c, e⟩ := H.one (d := slice edR) (e := 52) (v := ve) (xs := rs.map (edgesB ⟨a, b⟩ ms rs)) (by simp); exact ⟨A, _, c, e⟩
          obtain ⟨A7, n7, p7, rfl⟩ : ∃ A n c, vo = .slice A n c := by
            obtain ⟨A, c, e⟩ := H.one (d := bool) (e := 4) (v := vo) (xs := rs.map (orgB ⟨a, b⟩)) (by simp); exact ⟨A, _, c, e⟩
          obtain ⟨A8, n8, p8, rfl⟩ : ∃ A n c, vs = .slice A n c := by
            obtain ⟨A, c, e⟩ := H.one (d := int .i64) (e := 3) (v := vs) (xs := rs.map (wayB ⟨a, b⟩ rs)) (by simp); exact ⟨A, _, c, e⟩
          have x0 := (H.boxcell (.tail _ (.tail _ (.tail _ (.head _)))) 0 _ rfl).1; have x1 := (H.boxcell (.tail _ (.tail _ (.tail _ (.head _)))) 1 _ rfl).1; have x2 := (H.boxcell (.tail _ (.tail _ (.tail _ (.head _)))) 2 _ rfl).1
          go_wp2_with (first
            | (refine wp_stbox (H.pull (l1 := [_, _, _, _, _])) rfl _ _ _ rfl 0 rfl _ rfl _ rfl (by kernel_rfl) rfl (Nat.le_of_ble_eq_true rfl) [.slice A7 n7 p7, .slice A8 n8 p8, .slice A6 n6 p6] rfl ?_; clear H x0 x1 x2; intro W9 H))
          obtain ⟨_, _, _, _, _, _, hgR⟩ := H.item (.head _); (try simp only [Exit.inBlock, Exit.then]); refine bodyPost_ret (results_cell_row rfl _ _ (g + 1 + 1) 32 #[.slice A7 n7 p7, .slice A8 n8 p8, .slice A6 n6 p6] (0, 0) _ rfl hgR Try.underlying32 rfl (by kernel_rfl)) rfl ?_; have H := (((H.drop.pull (l1 := [_, _, _])).drop.pull (l1 := [_, _, _])).drop.pull (l1 := [_, _, _])).drop.pull (l1 := [_, _, _]); exact ⟨_, _, _, rfl, H.drop⟩
end Go.Proofs.Ytcagkdgpoijkoaa.Low
end
