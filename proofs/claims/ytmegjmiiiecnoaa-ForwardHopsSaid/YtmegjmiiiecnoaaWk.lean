/- Walks: law 21's walk, with its memory. -/
import Derived.Test.YtmegjmiiiecnoaaFw
import Derived.Test.YtmegjmiiiecnoaaFwQ
import Derived.Test.YtmegjmiiiecnoaaMap
import Derived.Lib.SliceRun
namespace Go.Proofs.Ytmegjmiiiecnoaa.Wk
open Go.RowKit Go.Proofs.Ytmegjmiiiecnoaa.Mq Go.Proofs.Ytmegjmiiiecnoaa.FwP Go.Proofs.Ytmegjmiiiecnoaa.FwQ Go.Proofs.Ytmegjmiiiecnoaa.Fw Go.Proofs.Ytmegjmiiiecnoaa.Map
set_option linter.unusedVariables false
set_option linter.unusedSimpArgs false
theorem laidOut : laidOutB Try.prog = true := by kernel_rfl
def ke (q : Int × Int) : Value := .agg #[.int .i64 q.1, .int .i64 q.2]
def okk (q : Int × Int) : Prop := (Lit.int .i64 q.1).wf = true ∧ (Lit.int .i64 q.2).wf = true
theorem keys : KeyOf Try.prog 76 ke okk where
  law := Go.Maps.Keyed.of_law (deep_law_gate laidOut (of_decide_eq_true (by kernel_rfl)) (of_decide_eq_true (by kernel_rfl)) (by kernel_rfl) (by kernel_rfl))
  tells := by
    rintro ⟨x, n⟩ ⟨h1, h2⟩
    simp only at h1 h2
    have e1 : Try.prog.keyType 76 = true := by kernel_rfl
    have e2 : (ke (x, n)).formed Try.prog 76 = true := by
      simp [ke, Value.formed, Try.underlying76]; kernel_rfl
    have e3 : (Try.prog.keyLits (Try.prog.types.size + 1) 76 (ke (x, n)).cells.toList).isSome = true := by
      have c2 : Try.prog.cellsOf 76 = 2 := by kernel_rfl
      have c1 : Try.prog.cellsOf 3 = 1 := by kernel_rfl
      obtain ⟨D, hD⟩ : ∃ D, Try.prog.types.size = D + 1 := ⟨Try.prog.types.size - 1, by kernel_rfl⟩
      rw [hD]
      simp [Program.keyLits, ke, Value.cells, Try.underlying76, Try.underlying3, c1, c2, h1, h2, List.range_succ]
    obtain ⟨ls, hls⟩ := Option.isSome_iff_exists.1 e3
    exact ⟨_, by unfold keyOf; rw [Try.underlying76]; simp only [e1, e2, hls]; rfl⟩
  inj := by
    rintro ⟨x, n⟩ ⟨y, m⟩ h
    simp [ke] at h
    simp [h]
theorem eql_nil (w : World) (a : Option Addr) (n c n' c' : Nat) : (binOp .eql 27 (.slice a n c) (.slice none n' c')).run Try.prog w = .ok (.bool a.isNone) w := Go.Lib.run_eql_slice_nil w _ _ a n c n' c' Try.underlying27
attribute [local go_sem] eql_nil
def inv (g : List (List Int)) (p : List Bool) (f : Int × Int → Option Bool) : Prop := ∀ (x : Int) (n : Nat) b, f (x, n) = some b → b = wk g p n x
/-- Who is asked for: nobody said, or some. -/
def asked (g : List (List Int)) (w : World) (T : Nat → Prop) (p : List Bool) (v : Value) : Prop :=
  (v = .slice none 0 0 ∧ p = List.replicate g.length true) ∨ ∃ ad to c, v = .slice (some ad) to.length c ∧ p = pad g.length to ∧ Row bool w T (some ad) to
theorem asked.move {g : List (List Int)} {T M Z : Nat → Prop} {w W : World} {p : List Bool} {v : Value} {R l : List Asr} (h : asked g w T p v) (H : MemM M Z w W R l) (hT : ∀ k, T k → k < w.heap.size ∧ ¬ M k) : asked g W T p v := by
  rcases h with h | ⟨ad, to, c, h1, h2, h3⟩
  · exact .inl h
  · exact .inr ⟨ad, to, c, h1, h2, H.argM h3 hT⟩
abbrev memo (gm cnt : Nat) (f : Int × Int → Option Bool) : Asr := mapOf ke Value.bool okk gm cnt f
/-- What a walk leaves of the memory. -/
def kept (g : List (List Int)) (p : List Bool) (M Z : Nat → Prop) (w : World) (gm : Nat) (W : World) : Prop := ∃ f cnt, inv g p f ∧ MemM M Z w W [] [memo gm cnt f]
/-- Under way: with the key, which is a variable in memory. -/
def kept' (g : List (List Int)) (p : List Bool) (M Z : Nat → Prop) (w : World) (gm gk : Nat) (x : Int) (n : Nat) (W : World) : Prop := ∃ f cnt, inv g p f ∧ MemM M Z w W [] [box gk 76 [.int .i64 x, .int .i64 (n + 1)], memo gm cnt f]

set_option maxHeartbeats 4000000 in
set_option maxRecDepth 100000 in
theorem walk_calls {g : List (List Int)} {p : List Bool} (hp : p.length = g.length) (n : Nat) (hn : n ≤ 1000) {c0 : Nat} : ∀ {M Z T : Nat → Prop} {w : World} {A0 : Option Addr} {v1 : Value} (x : Int) {gm cnt : Nat} {f : Int × Int → Option Bool}
    (H : MemM M Z w w [] [memo gm cnt f]) (hT : ∀ k, T k → k < w.heap.size ∧ ¬ M k) (hg : Row (slice (int .i64)) w T A0 g) (ha : asked g w T p v1) (hf : inv g p f),
    Calls Try.prog 12 #[.slice A0 g.length c0, v1, .int .i64 x, .int .i64 n, .map (some gm)] w fun e W => e = .returned (.bool (wk g p n x)) ∧ kept g p M Z w gm W := by
  induction n with
  | zero =>
    intro M Z T w A0 v1 x gm cnt f H hT hg ha hf
    have hgm := hg.len
    unfold maxLen at hgm
    go_enter Try.func12, Try.ntmps12
    by_cases h0 : 0 ≤ x
    · by_cases h1 : x < g.length
      · rcases ha with ⟨rfl, rfl⟩ | ⟨ad, to, c, rfl, rfl, hto⟩
        · have hw : Hid (wk g (List.replicate g.length true) 0 x = true) := wk_zero hp h0 h1 (by rw [List.getElem?_replicate, if_pos (by omega)])
          clear hp
          go_wp2
          go_ret
          exact ⟨by rw [hw.out]; rfl, f, cnt, hf, H⟩
        · have hb := pad_get g.length to x.toNat (by omega)
          by_cases hl : x < to.length
          · obtain ⟨y, hy⟩ : ∃ y, to[x.toNat]? = some y := ⟨_, List.getElem?_eq_getElem (by omega)⟩
            obtain ⟨_, e, hx1⟩ := hto.bool1 hy
            cases e
            have hw : Hid (wk g (pad g.length to) 0 x = y) := wk_zero hp h0 h1 (by rw [hb, List.getD_eq_getElem?_getD, hy, decide_eq_true (by omega)]; rfl)
            clear hp hb hy
            go_wp2
            go_ret
            exact ⟨by rw [hw.out]; rfl, f, cnt, hf, H⟩
          · have hw : Hid (wk g (pad g.length to) 0 x = false) := wk_zero hp h0 h1 (by rw [hb, decide_eq_false (by omega)]; rfl)
            clear hp hb
            go_wp2
            go_ret
            exact ⟨by rw [hw.out]; rfl, f, cnt, hf, H⟩
      · have hw : Hid (wk g p 0 x = false) := wk_out hp 0 (fun h => h1 h.2)
        go_wp2
        go_ret
        exact ⟨by rw [hw.out]; rfl, f, cnt, hf, H⟩
    · have hw : Hid (wk g p 0 x = false) := wk_out hp 0 (fun h => h0 h.1)
      go_wp2
      go_ret
      exact ⟨by rw [hw.out]; rfl, f, cnt, hf, H⟩
  | succ n ih =>
    intro M Z T w A0 v1 x gm cnt f H hT hg ha hf
    have hgm := hg.len
    unfold maxLen at hgm
    go_enter Try.func12, Try.ntmps12
    by_cases h0 : 0 ≤ x
    · by_cases h1 : x < g.length
      · have hmax : IntKind.i64.max = 9223372036854775807 := rfl
        have hmin : IntKind.i64.min = -9223372036854775808 := rfl
        have hq : okk (x, ((n + 1 : Nat) : Int)) := ⟨by simp [Lit.wf]; omega, by simp [Lit.wf]; omega⟩
        clear hmax hmin
        have H := H.box 76 [.int .i64 x, .int .i64 (n + 1)]
        have h00 : ((n : Int) + 1 == 0) = false := by simp; omega
        cases hfv : f (x, (n : Int) + 1) with
        | some b =>
          have hw : Hid (b = wk g p (n + 1) x) := hf x (n + 1) b (by simpa using hfv)
          go_wp2_with (first | ((with_reducible refine gate_dst (N := 47) rfl ?_); refine wp_lookup keys (.tail _ (.head _)) H rfl _ _ _ rfl Try.underlying29 (z := .bool false) (fun _ => by rfl) rfl (x, ((n + 1 : Nat) : Int)) rfl hq ?_))
          go_ret
          exact ⟨by rw [← hw.out]; rfl, f, cnt, hf, H.drop⟩
        | none =>
          obtain ⟨r, hr⟩ : ∃ r, g[x.toNat]? = some r := ⟨_, List.getElem?_eq_getElem (by omega)⟩
          have hw := hide (wk_succ hp n h0 h1 hr)
          have hg' := H.argM hg hT
          obtain ⟨ag, Ar, cr, rfl, hx0, hcr, hrr⟩ := hg'.row1 hr
          have hrm := hrr.len
          unfold maxLen at hrm
          clear hr hp
          go_wp2_with (first | ((with_reducible refine gate_dst (N := 47) rfl ?_); refine wp_lookup keys (.tail _ (.head _)) H rfl _ _ _ rfl Try.underlying29 (z := .bool false) (fun _ => by rfl) rfl (x, ((n + 1 : Nat) : Int)) rfl hq ?_))
          have hr0 := hrr.move (w' := w) (fun k hk => (H.keep.block k (hT k hk).1 (hT k hk).2).symm)
          clear hrr hg'
          have H0 : kept' g p M Z w gm w.heap.size x n (w.alloc (.cells #[.int .i64 x, .int .i64 (n + 1)] 76)) := ⟨f, cnt, hf, H⟩
          clear H hx0 hfv hf
          generalize w.heap.size = gk at H0 ⊢
          go_loopw [14, 57] (fun v14 v57 W => ∃ j : Nat, j ≤ r.length ∧ v57 = .int .i64 j ∧ v14 = .bool ((r.take j).any (wk g p n)) ∧ kept' g p M Z w gm gk x n W) (fun _ v57 _ => r.length - (intOf v57).toNat)
          case atStart => exact ⟨0, Nat.zero_le _, rfl, rfl, H0⟩
          case round =>
            clear H0
            obtain ⟨j, hj, rfl, rfl, f, cnt, hf, H⟩ := hrel
            by_cases hjl : j < r.length
            · obtain ⟨y, hy⟩ : ∃ y, r[j]? = some y := ⟨_, List.getElem?_eq_getElem hjl⟩
              obtain ⟨ar, rfl, hx0⟩ := (H.argM hr0 hT).int1 hy
              have hsn := hide (any_snoc r (wk g p n) j y hy)
              clear hy
              obtain ⟨b, hb⟩ : ∃ b, Hid ((r.take j).any (wk g p n) = b) := ⟨_, rfl⟩
              rw [hb.out] at hsn ⊢
              have hfin : Hid (∀ c, (b || wk g p n y) = c → Value.bool c = Value.bool ((r.take (j + 1)).any (wk g p n))) := fun c hc => by rw [hsn.out, hc]
              cases b
              · obtain ⟨M1, F1, hM1, hF1, -, HL, hback⟩ := MemM.lend (L := [memo gm cnt f]) H.pull1
                have hT1 : ∀ k, T k → k < wr.heap.size ∧ ¬ M1 k := fun k hk => ⟨Nat.lt_of_lt_of_le (hT k hk).1 H.keep.size, fun h => ((hM1 k h).1).elim (hT k hk).2 (fun h => absurd (hT k hk).1 (Nat.not_lt.2 h))⟩
                have hcall := ih (by omega) y HL hT1 (H.argM hg hT) (ha.move H hT) hf
                have hcall := hide hcall
                go_wp2_with (go_at_call 12; refine (hcall.out).mono ?_; rintro e W1 ⟨rfl, f1, cnt1, hf1, hm⟩; have H1 := hback W1 [] _ hm)
                go_roundw
                case rel => exact ⟨j + 1, by omega, by go_num, hfin.out _ (Bool.false_or _), f1, cnt1, hf1, H1.pull1⟩
                case measure => simp [intOf]; omega
              · go_wp2
                go_roundw
                case rel => exact ⟨j + 1, by omega, by go_num, hfin.out true (Bool.true_or _), f, cnt, hf, H⟩
                case measure => simp [intOf]; omega
            · obtain rfl : j = r.length := by omega
              rw [List.take_length, ← hw.out]
              obtain ⟨b, hb⟩ : ∃ b, Hid (wk g p (n + 1) x = b) := ⟨_, rfl⟩
              rw [hb.out]
              have hf1 : inv g p (upd f (x, ((n + 1 : Nat) : Int)) b) := by
                intro x' n' b' h
                unfold upd at h
                split at h
                · rename_i e
                  injection e with e1 e2
                  have : n' = n + 1 := by omega
                  subst e1 this
                  injection h with h
                  rw [← h, hb.out]
                · exact hf x' n' b' h
              have hc0 := H.boxcell (.head _) 0 _ rfl
              have hc1 := H.boxcell (.head _) 1 _ rfl
              go_wp2_with (first | (refine wp_mapUpdate keys H.pull1 rfl _ _ _ rfl Try.underlying29 rfl (x, ((n + 1 : Nat) : Int)) rfl hq b rfl ?_; intro W2 H2))
              go_ret
              exact ⟨by rw [hb.out]; rfl, _, _, hf1, H2.pull1.drop⟩
      · have hw : Hid (wk g p (n + 1) x = false) := wk_out hp _ (fun h => h1 h.2)
        go_wp2
        go_ret
        exact ⟨by rw [hw.out]; rfl, f, cnt, hf, H⟩
    · have hw : Hid (wk g p (n + 1) x = false) := wk_out hp _ (fun h => h0 h.1)
      go_wp2
      go_ret
      exact ⟨by rw [hw.out]; rfl, f, cnt, hf, H⟩
end Go.Proofs.Ytmegjmiiiecnoaa.Wk
