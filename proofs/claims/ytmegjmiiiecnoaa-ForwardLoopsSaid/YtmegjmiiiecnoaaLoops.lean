/- ForwardLoops, walked. -/
import Derived.Test.YtmegjmiiiecnoaaLaw21a
import Derived.Test.YtmegjmiiiecnoaaWk
import Derived.Deep.RegionHeld3
namespace Go.Proofs.Ytmegjmiiiecnoaa.Loops
open Go.RowKit Go.Proofs.Ytmegjmiiiecnoaa.Mq Go.Proofs.Ytmegjmiiiecnoaa.Map Go.Proofs.Ytmegjmiiiecnoaa.FwP Go.Proofs.Ytmegjmiiiecnoaa.FwQ Go.Proofs.Ytmegjmiiiecnoaa.Fw Go.Proofs.Ytmegjmiiiecnoaa.Gr Go.Proofs.Ytmegjmiiiecnoaa.Law21 Go.Proofs.Ytmegjmiiiecnoaa.Wk
set_option linter.unusedVariables false
set_option linter.unusedSimpArgs false

/-- The world between the walks: what is only read, and the memory. -/
def At (R : List Asr) (g : List (List Int)) (p : List Bool) (w : World) (gm : Nat) (W : World) : Prop :=
  ∃ f cnt, inv g p f ∧ Mem w W R [memo gm cnt f]
section
variable {R : List Asr} {g : List (List Int)} {p ls : List Bool} {w W : World} {gm n6 c6 c5 : Nat} {A5 A6 : Option Addr}
theorem At.mem (h : At R g p w gm W) : Mem w W [] [] := by
  obtain ⟨f, cnt, _, H⟩ := h
  exact H.drop.noR
theorem At.drew (h : At R g p w gm W) : At R g p w gm W.drew := by
  obtain ⟨f, cnt, hf, H⟩ := h
  exact ⟨f, cnt, hf, H.drew⟩
theorem At.cell {ad : Addr} (h : At R g p w gm W) (hR : row bool (some ad) ls ∈ R) {k : Nat} {b : Bool} (hb : ls[k]? = some b) : W.cell? (ad.add k) = some (.bool b) := by
  obtain ⟨f, cnt, hf, H⟩ := h
  obtain ⟨_, e, h⟩ := (H.rrow hR).bool1 hb
  cases e
  exact h
theorem At.walk (h : At R g p w gm W) (hp : p.length = g.length) (hR : row (slice (int .i64)) A5 g ∈ R) (n : Nat) (hn : n ≤ 1000) (x : Int) (v : Value) (hv : v = .slice none 0 0 ∧ p = List.replicate g.length true) :
    Calls Try.prog 12 #[.slice A5 g.length c5, v, .int .i64 x, .int .i64 n, .map (some gm)] W fun e W' => e = .returned (.bool (wk g p n x)) ∧ At R g p w gm W' := by
  obtain ⟨f, cnt, hf, H⟩ := h
  obtain ⟨M1, F1, hM1, hF1, hR1, HL, hback⟩ := MemM.lend (L := [memo gm cnt f]) (l := []) H
  refine (walk_calls hp n hn x HL hF1 (row_of_P (hR1 _ hR)) (.inl hv) hf).mono ?_
  rintro e W' ⟨rfl, f1, cnt1, hf1, hm⟩
  exact ⟨rfl, f1, cnt1, hf1, hback W' [] _ hm⟩
end

set_option maxHeartbeats 4000000 in
set_option maxRecDepth 100000 in
theorem loops_walk {w : World} {A0 : Option Addr} {raw : List (List Int)} {c0 : Nat} (hraw : Row (slice (int .u8)) w (· < w.heap.size) A0 raw) (hb : ∀ r ∈ raw, ∀ x ∈ r, 0 ≤ x ∧ x ≤ 255) :
    Calls Try.prog 3 #[.slice A0 raw.length c0] w fun e W => e = .returned (.bool true) ∧ Mem w W [] [] := by
  have H := MemM.start w
  have hb := hide hb
  have hgl := graphB_len raw
  obtain ⟨g, hg⟩ : ∃ g, Hid (graphB raw = g) := ⟨_, rfl⟩
  rw [hg.out] at hgl
  have hlen : Hid ((loopsB g).length = g.length) := itB_len g _ (by simp) _
  have hmore := hide (loops_more g (g.length + 3) (by omega))
  obtain ⟨ls, hls⟩ : ∃ ls, Hid (loopsB g = ls) := ⟨_, rfl⟩
  rw [hls.out] at hlen hmore
  have e1 : ((ls.length : Int) != (g.length : Int)) = false := by rw [hlen.out]; simp
  go_enter Try.func3, Try.ntmps3
  go_wp2_with fail
  refine (awake_calls).mono ?_; rintro e W1 ⟨rfl, hm⟩; have H := H.call hm; clear hm
  go_wp2_with fail
  refine (graph_calls (H.arg hraw) hb.out).mono ?_; rintro e W2 ⟨v1, rfl, hm⟩; have H := H.call hm; clear hm; rw [hg.out] at H; obtain ⟨A5, c5, rfl, -, hrg⟩ := H.rd (.head _)
  go_wp2_with fail
  refine (loops_calls hrg (by omega)).mono ?_; rintro e W3 ⟨v8, rfl, hm⟩; have H := H.call hm; clear hm hrg; rw [hls.out] at H
  obtain ⟨A6, c6, rfl, -, H⟩ := H.still
  obtain ⟨_, _, e5, -, H⟩ := H.still
  cases e5
  go_wp2_with (first | ((with_reducible refine gate_dst (N := 18) rfl ?_); refine wp_makeMap H ke Value.bool okk rfl rfl ?_; clear H; intro gm W4 H))
  have H0 : At [row (slice (int .i64)) A5 g, row bool A6 ls] g (List.replicate g.length true) w gm W4 := ⟨_, _, fun x n b h => (by cases h), H⟩
  clear H
  go_loopw [21] (fun v21 W => ∃ k : Nat, k ≤ g.length ∧ v21 = .int .i64 k ∧ At [row (slice (int .i64)) A5 g, row bool A6 ls] g (List.replicate g.length true) w gm W) (fun v21 _ => g.length - (intOf v21).toNat)
  case atStart => exact ⟨0, Nat.zero_le _, rfl, H0⟩
  case round =>
    clear H0
    obtain ⟨k, hk, rfl, H⟩ := hrel
    by_cases hlt : k < g.length
    · obtain ⟨b, hbk⟩ : ∃ b, ls[k]? = some b := ⟨_, List.getElem?_eq_getElem (by rw [hlen.out]; exact hlt)⟩
      have hwk : Hid (wk g (List.replicate g.length true) (g.length + 3) k = b) := wk_get (by simp) _ _ hlt (by rw [hmore.out]; exact hbk)
      obtain ⟨ad, rfl⟩ : ∃ ad, A6 = some ad := by
        obtain ⟨f, cnt, hf, H⟩ := H
        obtain ⟨ad, e, _⟩ := (H.rrow (.tail _ (.head _))).bool1 hbk
        exact ⟨ad, e⟩
      have klt : k < ls.length := by rw [hlen.out]; exact hlt
      have hS : Hid (∀ W, At [row (slice (int .i64)) A5 g, row bool (some ad) ls] g (List.replicate g.length true) w gm W → W.cell? (ad.add k) = some (.bool b)) := fun W h => h.cell (.tail _ (.head _)) hbk
      have hS0 := hS.out _ H
      have hcall : Hid (∀ W, At [row (slice (int .i64)) A5 g, row bool (some ad) ls] g (List.replicate g.length true) w gm W → Calls Try.prog 12 #[.slice A5 g.length c5, .slice none 0 0, .int .i64 k, .int .i64 (IntKind.i64.wrap ((g.length : Int) + 3)), .map (some gm)] W
          fun e W' => e = .returned (.bool b) ∧ At [row (slice (int .i64)) A5 g, row bool (some ad) ls] g (List.replicate g.length true) w gm W') := fun W h => by
        have := At.walk (c5 := c5) h (by simp) (.head _) (g.length + 3) (by omega) k _ ⟨rfl, rfl⟩
        rw [hwk.out] at this
        rw [show IntKind.i64.wrap ((g.length : Int) + 3) = (g.length : Int) + 3 from by rw [IntKind.wrap_i64]; omega]
        simpa using this
      clear hwk
      go_wp2_with fail
      go_region_held3 (fun W' => At [row (slice (int .i64)) A5 g, row bool (some ad) ls] g (List.replicate g.length true) w gm W' ∧ W'.cell? (ad.add k) = some (.bool b)) (first | (refine ⟨?_, ?_⟩ <;> first | with_reducible assumption | (with_reducible exact At.drew (by with_reducible assumption)) | go_keep) | with_reducible assumption | (with_reducible exact At.drew (by with_reducible assumption)) | go_keep)
        (first | (go_at_call 12; with_reducible refine (hcall.out _ ?_).mono ?_; (first | with_reducible assumption | (with_reducible exact At.drew (by with_reducible assumption))); rintro e W5 ⟨rfl, HW⟩; have hW := hS.out _ HW))
      go_wp2
      go_roundw
      case rel => exact ⟨k + 1, by omega, by go_num, HW⟩
      case measure => simp [intOf]; omega
    · go_wp2
      go_ret
      exact ⟨rfl, H.mem⟩
end Go.Proofs.Ytmegjmiiiecnoaa.Loops
