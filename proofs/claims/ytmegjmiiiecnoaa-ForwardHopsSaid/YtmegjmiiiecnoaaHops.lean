/- ForwardHops, walked. -/
import Derived.Test.YtmegjmiiiecnoaaLaw21a
import Derived.Test.YtmegjmiiiecnoaaWk
import Derived.Test.YtmegjmiiiecnoaaZeros
namespace Go.Proofs.Ytmegjmiiiecnoaa.Hops
open Go.RowKit Go.Proofs.Ytmegjmiiiecnoaa.Mq Go.Proofs.Ytmegjmiiiecnoaa.Map Go.Proofs.Ytmegjmiiiecnoaa.FwP Go.Proofs.Ytmegjmiiiecnoaa.FwQ Go.Proofs.Ytmegjmiiiecnoaa.Fw Go.Proofs.Ytmegjmiiiecnoaa.Gr Go.Proofs.Ytmegjmiiiecnoaa.Law21 Go.Proofs.Ytmegjmiiiecnoaa.Wk
set_option linter.unusedVariables false
set_option linter.unusedSimpArgs false
attribute [local go_sem] max2_int min2_int max_two min_two

theorem pad_mine (n : Nat) (to : List Bool) : pad n (to ++ List.replicate n false) = pad n to := by
  apply List.ext_getElem?
  intro k
  rcases Nat.lt_or_ge k n with h | h
  · rw [pad_get n _ k h, pad_get n _ k h]
    by_cases h1 : k < to.length
    · simp only [List.length_append, List.length_replicate, List.getD_eq_getElem?_getD, List.getElem?_append_left h1]
      simp [h1, Nat.lt_of_lt_of_le h1 (Nat.le_add_right _ _)]
    · simp only [List.length_append, List.length_replicate, List.getD_eq_getElem?_getD, List.getElem?_append_right (Nat.le_of_not_lt h1), List.getElem?_replicate]
      simp [h1]
      split <;> simp
  · rw [List.getElem?_eq_none (by rw [pad_len]; exact h), List.getElem?_eq_none (by rw [pad_len]; exact h)]
def isN (g : List (List Int)) (p : List Bool) (k : Nat) (n : Nat) : Bool := (List.range (min n (g.length + 1))).any fun i => wk g p i k
theorem isN_in {g : List (List Int)} {p : List Bool} {k n : Nat} (h : n ≤ g.length) : isN g p k (n + 1) = (isN g p k n || wk g p n k) := by
  unfold isN
  rw [Nat.min_eq_left (by omega), Nat.min_eq_left (by omega), List.range_succ, List.any_append]
  simp
theorem isN_out {g : List (List Int)} {p : List Bool} {k n : Nat} (h : ¬ n ≤ g.length) : isN g p k (n + 1) = isN g p k n := by
  unfold isN
  rw [Nat.min_eq_right (by omega), Nat.min_eq_right (by omega)]
def wantN (g : List (List Int)) (p : List Bool) (k : Nat) (most : Int) (n : Nat) : List Int := hopRow g p k (min n (most + 1).toNat)
theorem hopRow_next (g : List (List Int)) (p : List Bool) (hp : p.length = g.length) (k n : Nat) (hk : k < g.length) : hopRow g p k (n + 1) = hopRow g p k n ++ (if wk g p n k then [(n : Int)] else []) := by
  obtain ⟨b, hb⟩ : ∃ b, (itB g n p)[k]? = some b := ⟨_, List.getElem?_eq_getElem (by rw [itB_len g p hp]; exact hk)⟩
  unfold hopRow
  rw [List.range_succ, List.filter_append, List.map_append, wk_get hp n k hk hb]
  congr 1
  rw [List.filter_cons, List.getD_eq_getElem?_getD, hb]
  cases b <;> simp
theorem wantN_yes {g : List (List Int)} {p : List Bool} (hp : p.length = g.length) {k n : Nat} (hk : k < g.length) {most : Int} (h : (n : Int) ≤ most) (hw : wk g p n k = true) : wantN g p k most (n + 1) = wantN g p k most n ++ [(n : Int)] := by
  unfold wantN
  rw [Nat.min_eq_left (by omega), Nat.min_eq_left (by omega), hopRow_next g p hp k n hk, hw]
  rfl
theorem wantN_no {g : List (List Int)} {p : List Bool} (hp : p.length = g.length) {k n : Nat} (hk : k < g.length) {most : Int} (hw : wk g p n k = false) : wantN g p k most (n + 1) = wantN g p k most n := by
  unfold wantN
  rcases Nat.lt_or_ge n (most + 1).toNat with h | h
  · rw [Nat.min_eq_left (by omega), Nat.min_eq_left (by omega), hopRow_next g p hp k n hk, hw]
    simp
  · rw [Nat.min_eq_right (by omega), Nat.min_eq_right (by omega)]
theorem wantN_out {g : List (List Int)} {p : List Bool} {k n : Nat} {most : Int} (h : ¬ (n : Int) ≤ most) : wantN g p k most (n + 1) = wantN g p k most n := by
  unfold wantN
  rw [Nat.min_eq_right (by omega), Nat.min_eq_right (by omega)]
theorem reach_get (g : List (List Int)) (to : List Bool) (k n : Nat) (hk : k < g.length) (hn : g.length < n) : (reachB g to)[k]? = some (isN g (pad g.length to) k n) := by
  have hp := pad_len g.length to
  obtain ⟨r, hr⟩ : ∃ r, (reachB g to)[k]? = some r := ⟨_, List.getElem?_eq_getElem (by rw [reachB_len]; exact hk)⟩
  rw [hr]
  congr 1
  unfold isN
  rw [Nat.min_eq_right (by omega)]
  cases r with
  | true =>
    obtain ⟨i, hi, h⟩ := reach_it hp _ k hr
    symm
    rw [List.any_eq_true]
    exact ⟨i, List.mem_range.2 (by omega), wk_get hp i k hk h⟩
  | false =>
    symm
    rw [Bool.eq_false_iff]
    intro h
    rw [List.any_eq_true] at h
    obtain ⟨i, hi, h⟩ := h
    obtain ⟨b, hb⟩ : ∃ b, (itB g i (pad g.length to))[k]? = some b := ⟨_, List.getElem?_eq_getElem (by rw [itB_len g _ hp]; exact hk)⟩
    rw [wk_get hp i k hk hb] at h
    subst h
    have := it_reach_all hp i k hb
    rw [show reachIt g g.length (pad g.length to) = reachB g to from rfl, hr] at this
    cases this
theorem hops_get (g : List (List Int)) (to : List Bool) (most : Int) (h : most ≤ 127) (k n : Nat) (hk : k < g.length) (hn : most < n) : (hopsB g to most)[k]? = some (wantN g (pad g.length to) k most n) := by
  rw [hopsB_get g to most k hk]
  unfold wantN
  rw [Nat.min_eq_right (by omega), show min most 256 = most by omega]

theorem isN_zero (g : List (List Int)) (p : List Bool) (k : Nat) : isN g p k 0 = false := by simp [isN]
theorem wantN_zero (g : List (List Int)) (p : List Bool) (k : Nat) (most : Int) : wantN g p k most 0 = [] := by simp [wantN, hopRow]
theorem wantN_le (g : List (List Int)) (p : List Bool) (k : Nat) (most : Int) (n : Nat) : (wantN g p k most n).length ≤ n := by
  unfold wantN hopRow
  rw [List.length_map]
  refine Nat.le_trans (List.length_filter_le _ _) ?_
  rw [List.length_range]
  exact Nat.min_le_left _ _

/-- The world between the walks: what is only read, the memory, and what one wants. -/
def At (R : List Asr) (g : List (List Int)) (p : List Bool) (w : World) (gm : Nat) (v : Value) (xs : List Int) (W : World) : Prop :=
  ∃ f cnt, inv g p f ∧ Mem w W R [memo gm cnt f, own (int .i64) 3 v xs]
section
variable {R : List Asr} {g : List (List Int)} {p ls : List Bool} {w W : World} {gm c5 : Nat} {A5 : Option Addr} {v : Value} {xs : List Int}
theorem At.mem (h : At R g p w gm v xs W) : Mem w W [] [] := by
  obtain ⟨f, cnt, _, H⟩ := h
  exact H.drop.drop.noR
theorem At.rrow {α : Type} {d : Rep α} {A : Option Addr} {ys : List α} (h : At R g p w gm v xs W) (hR : row d A ys ∈ R) : Row d W (· < W.heap.size) A ys := by
  obtain ⟨f, cnt, hf, H⟩ := h
  exact H.rrow hR
theorem At.drewN (h : At R g p w gm v xs W) (n : Nat) : At R g p w gm v xs (W.drewN n) := by
  obtain ⟨f, cnt, hf, H⟩ := h
  exact ⟨f, cnt, hf, H.drewN n⟩
theorem At.want (h : At R g p w gm v xs W) : ∃ A c, v = .slice A xs.length c ∧ xs.length ≤ c ∧ Row (int .i64) W (· < W.heap.size) A xs := by
  obtain ⟨f, cnt, hf, H⟩ := h
  exact H.rd (.tail _ (.head _))
theorem At.nil (h : At R g p w gm v xs W) : At R g p w gm (.slice none 0 0) [] W := by
  obtain ⟨f, cnt, hf, H⟩ := h
  exact ⟨f, cnt, hf, ((H.pull1.drop).nilItem _ _).pull1⟩
theorem At.walk (h : At R g p w gm v xs W) (hp : p.length = g.length) (hR : row (slice (int .i64)) A5 g ∈ R) {Am : Option Addr} {mine : List Bool} {cm : Nat} (hpm : p = pad g.length mine) (hR2 : row bool Am mine ∈ R) (hl : 0 < mine.length) (n : Nat) (hn : n ≤ 1000) (x : Int) :
    Calls Try.prog 12 #[.slice A5 g.length c5, .slice Am mine.length cm, .int .i64 x, .int .i64 n, .map (some gm)] W fun e W' => e = .returned (.bool (wk g p n x)) ∧ At R g p w gm v xs W' := by
  obtain ⟨f, cnt, hf, H⟩ := h
  obtain ⟨M1, F1, hM1, hF1, hR1, HL, hback⟩ := MemM.lend (L := [memo gm cnt f]) (l := [own (int .i64) 3 v xs]) H
  have hm := row_of_P (hR1 _ hR2)
  obtain ⟨ad, rfl⟩ : ∃ ad, Am = some ad := by
    obtain ⟨y, hy⟩ : ∃ y, mine[0]? = some y := ⟨_, List.getElem?_eq_getElem hl⟩
    obtain ⟨ad, e, _⟩ := hm.bool1 hy
    exact ⟨ad, e⟩
  refine (walk_calls hp n hn x HL hF1 (row_of_P (hR1 _ hR)) (.inr ⟨ad, mine, cm, rfl, hpm, hm⟩) hf).mono ?_
  rintro e W' ⟨rfl, f1, cnt1, hf1, hm⟩
  exact ⟨rfl, f1, cnt1, hf1, hback W' [] _ hm⟩
end

set_option maxHeartbeats 4000000 in
set_option maxRecDepth 100000 in
theorem hops_walk {w : World} {A0 A1 : Option Addr} {raw : List (List Int)} {to : List Bool} {most : Int} {c0 c1 : Nat} (hraw : Row (slice (int .u8)) w (· < w.heap.size) A0 raw) (hb : ∀ r ∈ raw, ∀ x ∈ r, 0 ≤ x ∧ x ≤ 255)
    (hto : Row bool w (· < w.heap.size) A1 to) (hm0 : -128 ≤ most) (hm1 : most ≤ 127) (htl : to.length ≤ 140737488351232) :
    Calls Try.prog 5 #[.slice A0 raw.length c0, .slice A1 to.length c1, .int .i8 most] w fun e W => e = .returned (.bool true) ∧ Mem w W [] [] := by
  have H := MemM.start w
  have hb := hide hb
  have hgl := graphB_len raw
  obtain ⟨g, hg⟩ : ∃ g, Hid (graphB raw = g) := ⟨_, rfl⟩
  rw [hg.out] at hgl
  have hp := hide (pad_len g.length to)
  have hmine := hide (pad_mine g.length to)
  have hrl := hide (reachB_len g to)
  have hhl := hide (hopsB_len g to most)
  have hrg := hide (reach_get g to)
  have hhg := hide (hops_get g to most hm1)
  obtain ⟨p, hpd⟩ : ∃ p, Hid (pad g.length to = p) := ⟨_, rfl⟩
  rw [hpd.out] at hp hmine hrg hhg
  obtain ⟨hs, hhs⟩ : ∃ hs, Hid (hopsB g to most = hs) := ⟨_, rfl⟩
  rw [hhs.out] at hhl hhg
  obtain ⟨rs, hrs⟩ : ∃ rs, Hid (reachB g to = rs) := ⟨_, rfl⟩
  rw [hrs.out] at hrl hrg
  have e1 : ((hs.length : Int) != (g.length : Int)) = false := by rw [hhl.out]; simp
  have e2 : ((rs.length : Int) != (g.length : Int)) = false := by rw [hrl.out]; simp
  go_enter Try.func5, Try.ntmps5
  go_wp2_with fail
  refine (awake_calls).mono ?_; rintro e W1 ⟨rfl, hm⟩; have H := H.call hm; clear hm
  go_wp2_with fail
  refine (graph_calls (H.arg hraw) hb.out).mono ?_; rintro e W2 ⟨v1, rfl, hm⟩; have H := H.call hm; clear hm; rw [hg.out] at H; obtain ⟨A5, c5, rfl, -, H⟩ := H.still
  go_wp2_with fail
  refine (hops_calls (H.rrow (.head _)) (H.arg hto) (by omega)).mono ?_; rintro e W3 ⟨v8, rfl, hm⟩; have H := H.call hm; clear hm; rw [hhs.out] at H; obtain ⟨A6, c6, rfl, -, H⟩ := H.still
  go_wp2_with fail
  refine (reach_calls (H.rrow (.tail _ (.head _))) (H.arg hto) (by omega)).mono ?_; rintro e W4 ⟨v9, rfl, hm⟩; have H := H.call hm; clear hm; rw [hrs.out] at H; obtain ⟨A7, c7, rfl, -, H⟩ := H.still
  go_wp2_with (first | ((with_reducible refine gate_dst (N := 42) rfl ?_); refine wp_makeMap H ke Value.bool okk rfl rfl ?_; clear H; intro gm W5 H) |
    ((with_reducible refine gate_dst (N := 44) rfl ?_); replace H := H.nilItem bool 4; refine wp_appends H rfl _ _ 27 (.bool false) 1 rfl Try.underlying27 info_bool (by decide) (by decide) (by decide) (fun h => h) to A1 c1 rfl rfl (H.arg hto) (by simp; omega) ?_; clear H; intro v44 W6 H) |
    ((with_reducible refine gate_dst (N := 47) rfl ?_); refine wp_zeros H rfl _ _ 27 3 .i64 (.bool false) 1 rfl Try.underlying27 Try.underlying3 rfl info_bool rfl rfl false (fun _ _ => rfl) g.length rfl rfl (by simp; omega) (by simp; omega) ?_; clear H; intro v47 W7 H))
  rw [show ([] : List Bool) ++ to = to from rfl] at H
  obtain ⟨Am, cm, rfl, -, H⟩ := H.still
  have hml := hide (show 0 < g.length → 0 < (to ++ List.replicate g.length false).length by simp; omega)
  obtain ⟨mine, hmi⟩ : ∃ mine, Hid (to ++ List.replicate g.length false = mine) := ⟨_, rfl⟩
  have hmil : Hid ((to ++ List.replicate g.length false).length = to.length + g.length) := hide (by simp)
  rw [hmi.out] at hmine
  rw [hmi.out] at hml
  rw [hmi.out] at hmil
  rw [hmi.out] at H ⊢
  have H0 : At [row bool Am mine, row bool A7 rs, row (slice (int .i64)) A6 hs, row (slice (int .i64)) A5 g] g p w gm (.slice none 0 0) [] W7 := ⟨_, _, fun x n b h => (by cases h), (H.nilItem _ _).pull1⟩
  clear H
  obtain ⟨N, hN⟩ : ∃ N : Nat, max (g.length : Int) most = N := ⟨(max (g.length : Int) most).toNat, by omega⟩
  have hN1 : N ≤ 127 := by omega
  have hN2 : g.length ≤ N := by omega
  have hN3 : most ≤ N := by omega
  go_loopw [50] (fun v50 W => ∃ k : Nat, k ≤ g.length ∧ v50 = .int .i64 k ∧ ∃ v xs, At [row bool Am mine, row bool A7 rs, row (slice (int .i64)) A6 hs, row (slice (int .i64)) A5 g] g p w gm v xs W) (fun v50 _ => g.length - (intOf v50).toNat)
  case atStart => exact ⟨0, Nat.zero_le _, rfl, _, _, H0⟩
  case round =>
    clear H0
    obtain ⟨k, hk, rfl, v, xs, H⟩ := hrel
    by_cases hlt : k < g.length
    · have H := H.nil
      go_wp2
      go_loopw [13, 14, 15] (fun v13 v14 v15 W => ∃ n : Nat, n ≤ N + 1 ∧ v15 = .int .i64 n ∧ v14 = .bool (isN g p k n) ∧ At [row bool Am mine, row bool A7 rs, row (slice (int .i64)) A6 hs, row (slice (int .i64)) A5 g] g p w gm v13 (wantN g p k most n) W) (fun _ _ v15 _ => N + 1 - (intOf v15).toNat)
      case atStart => exact ⟨0, Nat.zero_le _, rfl, by rw [isN_zero], by rw [wantN_zero]; exact H⟩
      case round =>
        clear H
        obtain ⟨n, hn, rfl, rfl, H⟩ := hrel
        by_cases hnl : n ≤ N
        · have hcall := H.walk (c5 := c5) (cm := cm) hp.out (.tail _ (.tail _ (.tail _ (.head _)))) hmine.out.symm (.head _) (hml.out (by omega)) n (by omega) k
          have hin := hide (fun h => isN_in (g := g) (p := p) (k := k) (n := n) h)
          have hout := hide (fun h => isN_out (g := g) (p := p) (k := k) (n := n) h)
          have hyes := hide (fun h h' => wantN_yes hp.out (n := n) (most := most) hlt h h')
          have hno := hide (fun h => wantN_no hp.out (n := n) (most := most) hlt h)
          have hwo := hide (fun h => wantN_out (g := g) (p := p) (k := k) (n := n) (most := most) h)
          obtain ⟨b, hbd⟩ : ∃ b, Hid (wk g p n k = b) := ⟨_, rfl⟩
          rw [hbd.out] at hcall hin hyes hno
          obtain ⟨s, hsd⟩ : ∃ s, Hid (isN g p k n = s) := ⟨_, rfl⟩
          rw [hsd.out] at hin hout ⊢
          have hcall := hide hcall
          have hfin : Hid (∀ c, ((n ≤ g.length → (s || b) = c) ∧ (¬ n ≤ g.length → s = c)) → Value.bool c = Value.bool (isN g p k (n + 1))) := by
            intro c ⟨hc1, hc2⟩
            by_cases h1 : n ≤ g.length
            · rw [hin.out h1, hc1 h1]
            · rw [hout.out h1, hc2 h1]
          clear hin hout
          by_cases h1 : n ≤ g.length
          all_goals
            by_cases h2 : (n : Int) ≤ most
            · cases b
              · have hw2 := hide (hno.out rfl)
                cases s
                all_goals
                  go_wp2_with (go_at_call 12; refine (hcall.out).mono ?_; rintro e W8 ⟨rfl, HW⟩)
                  go_roundw
                  case rel => exact ⟨n + 1, by omega, by go_num, hfin.out _ (by simp [h1]), by rw [hw2.out]; exact HW⟩
                  case measure => simp [intOf]; omega
              · have hw2 := hide (hyes.out h2 rfl)
                cases s
                all_goals
                  go_wp2_with (first | (go_at_call 12; refine (hcall.out).mono ?_; rintro e W8 ⟨rfl, f, cnt, hf, HW⟩; replace HW := HW.pull1) |
                    ((with_reducible refine gate_dst (N := 88) rfl ?_); refine wp_append HW rfl _ _ _ (.int .i64 0) 8 rfl Try.underlying33 info_int rfl (by decide) (by decide) (n : Int) [.int .i64 n] rfl rfl (fun _ _ => rfl) (by have := wantN_le g p k most n; omega) ?_; clear HW; intro v88 W9 HW))
                  go_roundw
                  case rel => exact ⟨n + 1, by omega, by go_num, hfin.out _ (by simp [h1]), by rw [hw2.out]; exact ⟨f, cnt, hf, HW.pull1⟩⟩
                  case measure => simp [intOf]; omega
            · first
              | (exfalso; omega; done)
              | (have hw2 := hide (hwo.out h2)
                 cases b
                 all_goals
                   cases s
                   all_goals
                     go_wp2_with (go_at_call 12; refine (hcall.out).mono ?_; rintro e W8 ⟨rfl, HW⟩)
                     go_roundw
                     case rel => exact ⟨n + 1, by omega, by go_num, hfin.out _ (by simp [h1]), by rw [hw2.out]; exact HW⟩
                     case measure => simp [intOf]; omega)
        · obtain rfl : n = N + 1 := by omega
          have hh := hhg.out k (N + 1) hlt (by omega)
          have hr := hrg.out k (N + 1) hlt (by omega)
          obtain ⟨s, hsd⟩ : ∃ s, Hid (isN g p k (N + 1) = s) := ⟨_, rfl⟩
          have hwll := wantN_le g p k most (N + 1)
          obtain ⟨wl, hwd⟩ : ∃ wl, Hid (wantN g p k most (N + 1) = wl) := ⟨_, rfl⟩
          rw [hsd.out] at hr ⊢
          rw [hwd.out] at hh H hwll
          obtain ⟨a6, Ak, ck, rfl, hx6, hck, hrk⟩ := (H.rrow (.tail _ (.tail _ (.head _)))).row1 hh
          obtain ⟨a7, rfl, hx7⟩ := (H.rrow (.tail _ (.head _))).bool1 hr
          obtain ⟨Aw, cw, rfl, -, hrw⟩ := H.want
          have k1 : k < hs.length := by rw [hhl.out]; exact hlt
          have k2 : k < rs.length := by rw [hrl.out]; exact hlt
          clear hr
          have hh := hide hh
          go_wp2
          go_loopw [107] (fun v107 W => ∃ i : Nat, i ≤ wl.length ∧ v107 = .int .i64 i ∧ At [row bool Am mine, row bool (some a7) rs, row (slice (int .i64)) (some a6) hs, row (slice (int .i64)) A5 g] g p w gm (.slice Aw wl.length cw) wl W) (fun v107 _ => wl.length - (intOf v107).toNat)
          case atStart => exact ⟨0, Nat.zero_le _, rfl, H⟩
          case round =>
            clear H hx6 hx7 hrk hrw
            obtain ⟨i, hi, rfl, H⟩ := hrel
            by_cases hil : i < wl.length
            · obtain ⟨y, hy⟩ : ∃ y, wl[i]? = some y := ⟨_, List.getElem?_eq_getElem hil⟩
              obtain ⟨_, Ak, ck, e, hx6, hck, hrk⟩ := (H.rrow (.tail _ (.tail _ (.head _)))).row1 hh.out
              cases e
              obtain ⟨_, _, e, -, hrw⟩ := H.want
              cases e
              obtain ⟨ak, rfl, hxk⟩ := hrk.int1 hy
              obtain ⟨aw, rfl, hxw⟩ := hrw.int1 hy
              clear hy
              go_wp2
              go_quiet (fail)
              go_wp2
              go_roundw
              case rel => exact ⟨i + 1, by omega, by go_num, H.drewN _⟩
              case measure => simp [intOf]; omega
            · go_wp2
              go_roundw
              case rel => exact ⟨k + 1, by omega, by go_num, _, _, H⟩
              case measure => simp [intOf]; omega
    · go_wp2
      go_ret
      exact ⟨rfl, H.mem⟩
end Go.Proofs.Ytmegjmiiiecnoaa.Hops
