/- Walk: forward.Of. -/
import Derived.Test.YtcagkdgpoijkoaaJ7
import Derived.Test.YtcagkdgpoijkoaaJ2
import Derived.Test.YtcagkdgpoijkoaaMix
namespace Go.Proofs.Ytcagkdgpoijkoaa.Of
open Go.RowKit Go.Proofs.Ytcagkdgpoijkoaa.Mq Go.Proofs.Ytcagkdgpoijkoaa.OfP
set_option linter.unusedVariables false
set_option linter.unusedSimpArgs false
theorem sort_mem {M Z : Nat → Prop} {w0 W : World} {R l : List Asr} {v : Value} {xs : List Int} (H : MemM M Z w0 W R (own (int .i64) 3 v xs :: l)) (hl : xs.length < 4611686018427387904) :
    Calls Try.prog 27 #[v] W fun e W1 => e = .returned (.tuple #[]) ∧ MemM M Z w0 W1 R (own (int .i64) 3 v (xs.mergeSort le) :: l) := by
  obtain ⟨F, S, ⟨h1, cells, ho, hr⟩, h2, h3, h4, h5, h6⟩ := H.open1
  refine (Sorted.sort_calls (fun k => v.ownBlock = some k) v xs (xs.mergeSort le) { W with heap := #[] } W ⟨rfl, rfl, rfl, Nat.zero_le _, fun k hk => absurd hk (by simp)⟩ ⟨fun k hk => hk, cells, ho, hr⟩ hl rfl).mono ?_
  rintro e w' ⟨rfl, ⟨_, cells', ho', hr'⟩, hB, hK⟩
  exact ⟨rfl, h6 w' (own (int .i64) 3 v (xs.mergeSort le)) v.ownBlock ⟨hB.os, hB.tape, hB.output, hK.1, fun k hk hne => hK.2 k hk (fun e => hne e.symm)⟩ (fun k e => h1 k e) ⟨fun k hk => .inl (h1 k hk), cells', ho', hr'⟩⟩
theorem info_ints : (Try.prog.info? 29).map (fun i => (i.zero, i.size, i.bytes)) = some (some (.slice none 0 0), 1, 24) := by kernel_rfl
theorem info_int : (Try.prog.info? 3).map (fun i => (i.zero, i.size, i.bytes)) = some (some (.int .i64 0), 1, 8) := by kernel_rfl
theorem info_at : (Try.prog.info? 41).map (·.zero) = some (some (.agg #[.bool false, .int .i64 0, .int .i64 0, .int .u8 0])) := by kernel_rfl
theorem spelled {W : World} {cs : List Value} {ad : Addr} {n : Nat} (h : ∀ (j : Nat) u, cs[j]? = some u → W.cell? (ad.add (n + j)) = some u) (j : Nat) (u : Value) (hj : cs[j + 1]? = some u) : W.cell? ⟨(ad.add n).block, (ad.add n).off + (j + 1), none⟩ = some u := by
  have h1 := h (j + 1) u hj
  rw [← add_add] at h1
  simpa [Addr.add] using h1
theorem ed0 {w : World} {S : Nat → Prop} {A : Option Addr} {xs : List Ed} (h : Row edR w S A xs) {i : Nat} {e : Ed} (hx : xs[i]? = some e) : ∃ ad, A = some ad ∧ w.cell? (ad.add (i * 4)) = some (.int .i64 e.frm) := by
  obtain ⟨ad, cs, rfl, _, hK, hc⟩ := h.at_ hx
  obtain ⟨c, cs', rfl, hc0, _⟩ := hK
  cases hc0
  exact ⟨ad, rfl, hc 0 _ rfl⟩
theorem oldcell {w W : World} {R l : List Asr} (H : Mem w W R l) {a : Addr} {v : Value} (h : w.cell? a = some v) : W.cell? a = some v := by
  rw [(MemM.below H).cell (block_lt_of_cell h)]; exact h
theorem swapIn {M Z : Nat → Prop} {w0 W : World} {R l1 l2 l3 : List Asr} {a new old : Asr} (H : MemM M Z w0 W R (a :: new :: (l1 ++ old :: l2 ++ l3))) : MemM M Z w0 W R (a :: (l1 ++ new :: l2 ++ l3)) := by
  have p : (a :: new :: (l1 ++ old :: l2 ++ l3)).Perm (old :: a :: (l1 ++ new :: l2 ++ l3)) := by
    rw [List.append_assoc, List.append_assoc, List.cons_append, List.cons_append]
    refine (List.Perm.cons a (List.Perm.cons new List.perm_middle)).trans ?_
    refine (List.Perm.cons a (List.Perm.swap old new _)).trans ?_
    refine (List.Perm.swap old a _).trans ?_
    exact List.Perm.cons old (List.Perm.cons a List.perm_middle.symm)
  exact (H.perm p).drop
set_option maxHeartbeats 4000000 in
set_option maxRecDepth 100000 in
theorem of_calls {w : World} {A0 A1 A2 AL : Option Addr} {o : List Bool} {s : List Int} {es : List (List Ed)} {l : List At} {c0 c1 c2 cL : Nat} (hO : Row bool w (· < w.heap.size) A0 o) (hS : Row (int .i64) w (· < w.heap.size) A1 s) (hE : Row (slice edR) w (· < w.heap.size) A2 es) (hL : Row atR w (· < w.heap.size) AL l) (hol : o.length ≤ 1000000000) (offs : Nat → List At)
    (hoff : Hid (∀ (k : Nat) W, k < o.length → Below w.heap.size w W → Calls Try.prog 12 #[.agg #[.slice A0 o.length c0, .slice A1 s.length c1, .slice A2 es.length c2], .slice AL l.length cL, .int .i64 k] W fun e W' => ∃ v, e = .returned v ∧ Mem W W' [] [own atR 41 v (offs k)]))
    (hlen : Hid (∀ k, k < o.length → (offs k).length ≤ (es.getD k []).length)) (hshort : Hid (∀ k, k < o.length → (offs k).length ≤ 1000000000))
    (hsame : Hid (∀ (a b : At) W, Calls Try.prog 13 #[.agg a.enc.toArray, .agg b.enc.toArray] W fun e W' => e = .returned (.bool (sameB a b)) ∧ Mem W W' [] [])) :
    Calls Try.prog 11 #[.agg #[.slice A0 o.length c0, .slice A1 s.length c1, .slice A2 es.length c2], .slice AL l.length cL] w fun e W => ∃ v, e = .returned v ∧ Mem w W [] [own (slice (int .i64)) 29 v (ofB o s es l offs)] := by
  have H := (MemM.start w).box 32 [.slice A0 o.length c0, .slice A1 s.length c1, .slice A2 es.length c2]
  have hsl := hS.len
  have hll := hL.len
  unfold maxLen at hsl hll
  go_enter Try.func11, Try.ntmps11
  go_wp2_with (first | ((with_reducible refine gate_dst (N := 12) rfl ?_); refine wp_make H raw 29 rfl 44 _ _ rfl o.length rfl rfl Try.underlying44 (.slice none 0 0) 24 info_ints rfl (by decide) (by decide) nilCell (fun _ => rfl) (by omega) ?_; clear H; intro g5 W5 H))
  generalize w.heap.size = g at H ⊢
  have H := (MemM.nilRows H (int .i64) 3 o.length).pull
  have hdef : Hid (ofB o s es l offs = ofN (ofRow o s es l offs) o.length o.length) := rfl
  have hrow : Hid (∀ k, ofRow o s es l offs k = match way o s l k with | .none => [] | .one x => [x] | .all a => (pick a (offs k) (es.getD k [])).mergeSort le) := fun _ => rfl
  generalize ofRow o s es l offs = row at hdef hrow
  rw [← ofN_zero row o.length] at H
  go_loopw [15] (fun v15 W => ∃ (k : Nat) (vs : List Cell), k ≤ o.length ∧ v15 = .int .i64 k ∧ Hid (vs.length = o.length) ∧ Mem w W [] (own raw 29 (.slice (some ⟨g5, 0, none⟩) o.length o.length) vs :: (rowsOf (int .i64) 3 vs (ofN row o.length k) ++ [box g 32 [.slice A0 o.length c0, .slice A1 s.length c1, .slice A2 es.length c2]]))) (fun v15 _ => o.length - (intOf v15).toNat)
  case atStart => exact ⟨0, _, Nat.zero_le _, rfl, by simp [Hid], H⟩
  case round =>
    clear H
    obtain ⟨k, vs, hk, rfl, hvs, H⟩ := hrel
    by_cases hlt : k < o.length
    · obtain ⟨b, hob⟩ : ∃ b, o[k]? = some b := ⟨_, List.getElem?_eq_getElem hlt⟩
      obtain ⟨ad0, rfl, hx0⟩ := H.bool_at hO hob
      have x0 := (H.boxcell ((List.mem_cons_of_mem _ (List.mem_append_right _ (.head _)))) 0 _ rfl).1
      have x1 := (H.boxcell ((List.mem_cons_of_mem _ (List.mem_append_right _ (.head _)))) 1 _ rfl).1
      have x2 := (H.boxcell ((List.mem_cons_of_mem _ (List.mem_append_right _ (.head _)))) 2 _ rfl).1
      cases b
      · have hway : Hid (way o s l k = match s[k]? with | some x => if 0 ≤ x then .one x else (match l[k]? with | some a => if a.ok then .all a else .none | none => .none) | none => (match l[k]? with | some a => if a.ok then .all a else .none | none => .none)) := by unfold Hid way; rw [List.getD_eq_getElem?_getD, hob]; rfl
        clear hob
        have hget := hide (ofN_get row o.length k hlt)
        have hnext := hide (ofN_next row o.length k)
        have hsm := hide (ofN_same row o.length k)
        have hlk := hlen.out k hlt
        have hsk := hshort.out k hlt
        have hrk := hide (hrow.out k)
        by_cases hone : ∃ x, s[k]? = some x ∧ 0 ≤ x
        · obtain ⟨x, hsx, hx⟩ := hone
          have hks : k < s.length := (List.getElem?_eq_some_iff.1 hsx).1
          have hrk := hide (show row k = [x] by rw [hrk.out, hway.out, hsx]; simp [hx])
          obtain ⟨ad1, rfl, hx1⟩ := H.int_at hS hsx
          clear hsx hway hsm
          obtain ⟨⟨v, hv1⟩, hv⟩ : ∃ v, vs[k]? = some v := ⟨_, List.getElem?_eq_getElem (by rw [hvs.out]; exact hlt)⟩
          obtain ⟨l1, l2, e1, e2⟩ := rowsOf_split (int .i64) 3 (by rw [hvs.out, ofN_len]) hv hget.out
          have e2 := hide e2
          have hvv := hide hv
          rw [e1] at H
          clear e1 hv
          go_wp2_with (first
            | ((with_reducible refine gate_dst (N := 45) rfl ?_); refine wp_lit H (int .i64) 3 [x] [.int .i64 x] rfl (by first | (go_simp; done) | (go_simp; rfl)) (fun _ _ => Reps.single rfl rfl) (Nat.le_of_ble_eq_true rfl) ?_; clear H x0 x1 x2 hx0 hx1; intro g45 W1 H; obtain ⟨u, hu, hc1, hf1⟩ := H.cell1 (.tail _ (.head _)) hvv.out; clear hu))
          have H := swapIn (MemM.set1 H.pull1 (i := k) (by rw [hvs.out]; exact hlt) (x' := slCell (some ⟨g45, 0, none⟩) 1 1) (u := .slice (some ⟨g45, 0, none⟩) 1 1) (fun _ _ => rfl))
          have e3 := e2.out (slCell (some ⟨g45, 0, none⟩) 1 1) [x]
          rw [← hrk.out, hnext.out, hrk.out] at e3
          go_roundw
          case rel => exact ⟨k + 1, vs.set k (slCell (some ⟨g45, 0, none⟩) 1 1), by omega, by go_num, by rw [Hid, List.length_set]; exact hvs.out, by rw [e3]; exact H⟩
          case measure => simp [intOf]; omega
        · have hsf : (¬ k < s.length) ∨ ∃ ad1 x, A1 = some ad1 ∧ k < s.length ∧ ¬ 0 ≤ x ∧ wr.cell? (ad1.add k) = some (.int .i64 x) := by
            by_cases hks : k < s.length
            · obtain ⟨ad1, e1, hx1⟩ := H.int_at hS (List.getElem?_eq_getElem hks)
              exact .inr ⟨ad1, _, e1, hks, fun h => hone ⟨_, List.getElem?_eq_getElem hks, h⟩, hx1⟩
            · exact .inl hks
          have hwl : Hid (way o s l k = match l[k]? with | some a => if a.ok then .all a else .none | none => .none) := by
            rw [Hid, hway.out]
            cases hsk : s[k]? with
            | none => rfl
            | some x =>
              have : ¬ 0 ≤ x := fun h => hone ⟨x, hsk, h⟩
              simp [this]
          clear hway hone
          by_cases hall : ∃ a, l[k]? = some a ∧ a.ok = true
          · obtain ⟨⟨aok, apref, acost, atags⟩, hla, hok⟩ := hall
            simp only at hok
            subst hok
            have hkl : k < l.length := (List.getElem?_eq_some_iff.1 hla).1
            have hrk := hide (show row k = (pick ⟨true, apref, acost, atags⟩ (offs k) (es.getD k [])).mergeSort le by rw [hrk.out, hwl.out, hla]; rfl)
            clear hwl hsm
            obtain ⟨adL, rfl, hxl⟩ := (H.arg hL).flat1 hla
            have hl0 := hxl 0 _ rfl
            simp only [Nat.add_zero] at hl0
            clear hxl
            have hLk : Hid (∀ W R l', Mem w W R l' → W.cell? (adL.add (k * 4)) = some (.bool true) ∧ W.cell? ⟨(adL.add (k * 4)).block, (adL.add (k * 4)).off + (0 + 1), none⟩ = some (.int .i64 apref) ∧ W.cell? ⟨(adL.add (k * 4)).block, (adL.add (k * 4)).off + (1 + 1), none⟩ = some (.int .i64 acost) ∧ W.cell? ⟨(adL.add (k * 4)).block, (adL.add (k * 4)).off + (2 + 1), none⟩ = some (.int .u8 atags)) := fun W R l' HW => by
              obtain ⟨_, e, hx⟩ := (HW.arg hL).flat1 hla
              cases e
              exact ⟨hx 0 _ rfl, spelled hx 0 _ rfl, spelled hx 1 _ rfl, spelled hx 2 _ rfl⟩
            clear hla
            have hek : Hid (∀ i, i < (es.getD k []).length → es[k]? = some (es.getD k [])) := fun i hi => by
              rw [List.getD_eq_getElem?_getD] at hi ⊢
              cases he : es[k]? with
              | none => rw [he] at hi; simp at hi
              | some x => rfl
            generalize es.getD k [] = ek at hek hrk hlk
            rcases hsf with hks | ⟨ad1, x, rfl, hks, hxn, hx1⟩
            all_goals
              go_wp2_with (first
                | ((with_reducible refine gate_dst (N := 59) rfl ?_); refine wp_ldbox (List.mem_cons_of_mem _ (List.mem_append_right _ (.head _))) H rfl _ _ rfl 0 3 rfl _ Try.underlying32 rfl _ rfl (by kernel_rfl) ?_)
                | (go_at_call 12; refine (hoff.out k _ hlt (MemM.below H)).mono ?_; rintro e W6 ⟨v8, rfl, hm⟩; replace H := H.call hm; clear hm x0 x1 x2 hx0 hl0; obtain ⟨A8, c8, rfl⟩ := H.one (.head _)))
              first | (generalize hvS : Value.slice (some ad1) s.length c1 = vS at H) | (generalize hvS : Value.slice A1 s.length c1 = vS at H)
              have hvS := hide hvS
              have hst : Hid ((ofN row o.length k).set k (pick ⟨true, apref, acost, atags⟩ ((offs k).take 0) ek) = ofN row o.length k) := by
                rw [Hid, List.take_zero, pick_zero]
                apply List.ext_getElem?
                intro j
                rw [List.getElem?_set]
                split
                · rename_i hj; subst hj; rw [hget.out]; simp [ofN_len, hlt]
                · rfl
              rw [← hst.out] at H
              clear hst
              go_loopw [64] (fun v64 W => ∃ (i : Nat) (vs : List Cell), i ≤ (offs k).length ∧ v64 = .int .i64 i ∧ Hid (vs.length = o.length) ∧ Mem w W [] (own atR 41 (.slice A8 (offs k).length c8) (offs k) :: own raw 29 (.slice (some ⟨g5, 0, none⟩) o.length o.length) vs :: (rowsOf (int .i64) 3 vs ((ofN row o.length k).set k (pick ⟨true, apref, acost, atags⟩ ((offs k).take i) ek)) ++ [box g 32 [.slice (some ad0) o.length c0, vS, .slice A2 es.length c2]]))) (fun v64 _ => (offs k).length - (intOf v64).toNat)
              case atStart => exact ⟨0, vs, Nat.zero_le _, rfl, hvs, H⟩
              case round =>
                clear H hvs
                obtain ⟨i, vs, hi, rfl, hvs, H⟩ := hrel
                by_cases hil : i < (offs k).length
                · obtain ⟨⟨xo, xp, xc, xt⟩, hxi⟩ : ∃ x, (offs k)[i]? = some x := ⟨_, List.getElem?_eq_getElem hil⟩
                  obtain ⟨e, hei⟩ : ∃ e, ek[i]? = some e := ⟨_, List.getElem?_eq_getElem (by omega)⟩
                  have hpn := hide (pick_next ⟨true, apref, acost, atags⟩ (offs k) ek i ⟨xo, xp, xc, xt⟩ e hxi hei)
                  have hek1 := hek.out i (by omega)
                  obtain ⟨-, -, hof⟩ := H.rdx (.head _)
                  obtain ⟨ad8, rfl, hx8⟩ := hof.flat1 hxi
                  have hx8 := hide hx8
                  clear hof hxi
                  have hsm1 : Hid (∀ W, Calls Try.prog 13 #[.agg #[.bool xo, .int .i64 xp, .int .i64 xc, .int .u8 xt], .agg #[.bool true, .int .i64 apref, .int .i64 acost, .int .u8 atags]] W fun e W' => e = .returned (.bool (sameB ⟨xo, xp, xc, xt⟩ ⟨true, apref, acost, atags⟩)) ∧ Mem W W' [] []) := fun W => hsame.out ⟨xo, xp, xc, xt⟩ ⟨true, apref, acost, atags⟩ W
                  generalize sameB ⟨xo, xp, xc, xt⟩ ⟨true, apref, acost, atags⟩ = m at hpn hsm1
                  go_wp2_with (first
                    | ((with_reducible refine gate_dst (N := 68) rfl ?_); refine wp_ldcells [.bool xo, .int .i64 xp, .int .i64 xc, .int .u8 xt] hx8.out rfl _ _ rfl rfl _ Try.underlying41 rfl (by kernel_rfl) ?_)
                    | ((with_reducible refine gate_dst (N := 8) rfl ?_); refine wp_alloc H rfl _ rfl _ info_at _ rfl ?_; clear H hx8; intro ga W1 H)
                    | (refine wp_stbox H rfl _ _ _ rfl 0 rfl _ rfl _ rfl (by kernel_rfl) rfl (Nat.le_of_ble_eq_true rfl) [.bool xo, .int .i64 xp, .int .i64 xc, .int .u8 xt] rfl ?_; clear H; intro W2 H; have y0 := (H.boxcell (.head _) 0 _ rfl).1; have y1 := (H.boxcell (.head _) 1 _ rfl).1; have y2 := (H.boxcell (.head _) 2 _ rfl).1; have y3 := (H.boxcell (.head _) 3 _ rfl).1; obtain ⟨m0, m1, m2, m3⟩ := hLk.out _ _ _ H))
                  replace y0 := cell_regrown y0
                  replace y1 := cell_regrown y1
                  replace y2 := cell_regrown y2
                  replace y3 := cell_regrown y3
                  replace m0 := cell_regrown m0
                  replace m1 := cell_regrown m1
                  replace m2 := cell_regrown m2
                  replace m3 := cell_regrown m3
                  refine wp_region_quiet_below (by kernel_rfl) (by kernel_rfl) ?_
                  repeat (first | go_big_quiet_skip | (go_big_quiet_want; go_big_quiet_op; first | go_big_quiet_on | (apply Exists.intro; refine ⟨fun _ => ?_, ?_⟩; ((go_at_call 13; exact calls_regrown hsm1.out)); go_big_quiet_on)))
                  refine wpQuiet_nil ?_
                  intro Wq hw'
                  obtain ⟨pq, hw''⟩ := hw'
                  have hq := mem_of_regrown hw''
                  clear hw''
                  have H := (H.call hq).drop
                  clear y0 y1 y2 y3 m0 m1 m2 m3
                  cases m
                  · have hpn := hide (show pick ⟨true, apref, acost, atags⟩ ((offs k).take (i + 1)) ek = pick ⟨true, apref, acost, atags⟩ ((offs k).take i) ek by rw [hpn.out]; simp)
                    go_wp2
                    go_roundw
                    case rel => exact ⟨i + 1, vs, by omega, by go_num, hvs, by rw [hpn.out]; exact H⟩
                    case measure => simp [intOf]; omega
                  · have hpq := hide (show pick ⟨true, apref, acost, atags⟩ ((offs k).take (i + 1)) ek = pick ⟨true, apref, acost, atags⟩ ((offs k).take i) ek ++ [e.frm] by rw [hpn.out]; simp)
                    clear hpn
                    have hln := pick_len ⟨true, apref, acost, atags⟩ ((offs k).take i) ek
                    rw [List.length_take] at hln
                    generalize pick ⟨true, apref, acost, atags⟩ ((offs k).take i) ek = acc at hpq hln H
                    obtain ⟨ad2, A', c', e2', hE1, -, hEk⟩ := (MemM.start w).row_at hE hek1
                    cases e2'
                    obtain ⟨adE, e3', hfr⟩ := ed0 hEk hei
                    cases e3'
                    have hkes : k < es.length := (List.getElem?_eq_some_iff.1 hek1).1
                    have hie : i < ek.length := (List.getElem?_eq_some_iff.1 hei).1
                    clear hEk hek1 hei
                    have hget2 := hide (set_get (ofN row o.length k) k acc (by rw [ofN_len]; exact hlt))
                    obtain ⟨⟨v, hv1⟩, hv⟩ : ∃ v, vs[k]? = some v := ⟨_, List.getElem?_eq_getElem (by rw [hvs.out]; exact hlt)⟩
                    obtain ⟨l1, l2, e1, e2⟩ := rowsOf_split (int .i64) 3 (by rw [hvs.out, List.length_set, ofN_len]) hv hget2.out
                    have e2 := hide e2
                    have hvv := hide hv
                    rw [e1] at H
                    clear e1 hv
                    obtain ⟨A, c, rfl⟩ := H.one (d := int .i64) (e := 3) (v := v) (xs := acc) (by simp)
                    rw [show ∀ (a r b c : Asr) (l1 l2 : List Asr), a :: r :: (l1 ++ b :: l2 ++ [c]) = (a :: r :: l1) ++ b :: (l2 ++ [c]) from fun a r b c l1 l2 => by simp] at H
                    have H := H.pull
                    have hSof : Hid (∀ W' l', Mem w W' [] l' → own raw 29 (.slice (some ⟨g5, 0, none⟩) o.length o.length) vs ∈ l' → box g 32 [.slice (some ad0) o.length c0, vS, .slice (some ad2) es.length c2] ∈ l' → (W'.cell? ⟨g5, k, none⟩ = some (.slice A acc.length c) ∧ W'.cell? ⟨g, 2, none⟩ = some (.slice (some ad2) es.length c2) ∧ W'.cell? (ad2.add k) = some (.slice (some adE) ek.length c') ∧ W'.cell? (adE.add (i * 4)) = some (.int .i64 e.frm))) := fun W' l' HW h1 h2 => by
                      obtain ⟨u, hu, hc, _⟩ := HW.cell1 h1 hvv.out
                      cases hu
                      exact ⟨hc, (HW.boxcell h2 2 _ rfl).1, oldcell HW hE1, oldcell HW hfr⟩
                    clear hE1 hfr
                    go_wp2_with fail
                    refine wp_region_mix 17 (fun W' => W'.cell? ⟨g5, k, none⟩ = some (.slice A acc.length c) ∧ W'.cell? ⟨g, 2, none⟩ = some (.slice (some ad2) es.length c2) ∧ W'.cell? (ad2.add k) = some (.slice (some adE) ek.length c') ∧ W'.cell? (adE.add (i * 4)) = some (.int .i64 e.frm)) (by kernel_rfl) ?_
                    replace H := H.drew
                    have hS := hSof.out _ _ H (.tail _ (.tail _ (.head _))) (by simp)
                    refine wpAnyM_take (i := 0) (v := ?_) rfl (by kernel_rfl) (by kernel_rfl) (by kernel_rfl) (by kernel_rfl) (fun _ _ _ h => h) hS (Or.inl ⟨by rfl, ?_⟩) ?_
                    rotate_left
                    · intro w1 hS1
                      (try dsimp only at hS1)
                      go_simp
                      try with_reducible rfl
                    simp only [Act.put, List.getElem_toArray, List.getElem_cons_succ, List.getElem_cons_zero, List.setIfInBounds_toArray, List.set_cons_zero, List.set_cons_succ]
                    refine wpAnyM_take (i := 1) (v := ?_) rfl (by kernel_rfl) (by kernel_rfl) (by kernel_rfl) (by kernel_rfl) (fun _ _ _ h => h) hS (Or.inl ⟨by rfl, ?_⟩) ?_
                    rotate_left
                    · intro w1 hS1
                      (try dsimp only at hS1)
                      go_simp
                      try with_reducible rfl
                    simp only [Act.put, List.getElem_toArray, List.getElem_cons_succ, List.getElem_cons_zero, List.setIfInBounds_toArray, List.set_cons_zero, List.set_cons_succ]
                    refine wpAnyM_take (i := 2) (v := ?_) rfl (by kernel_rfl) (by kernel_rfl) (by kernel_rfl) (by kernel_rfl) (fun _ _ _ h => h) hS (Or.inl ⟨by rfl, ?_⟩) ?_
                    rotate_left
                    · intro w1 hS1
                      (try dsimp only at hS1)
                      go_simp
                      try with_reducible rfl
                    simp only [Act.put, List.getElem_toArray, List.getElem_cons_succ, List.getElem_cons_zero, List.setIfInBounds_toArray, List.set_cons_zero, List.set_cons_succ]
                    refine wpAnyM_take (i := 3) (v := ?_) rfl (by kernel_rfl) (by kernel_rfl) (by kernel_rfl) (by kernel_rfl) (fun _ _ _ h => h) hS (Or.inl ⟨by rfl, ?_⟩) ?_
                    rotate_left
                    · intro w1 hS1
                      (try dsimp only at hS1)
                      go_simp
                      try with_reducible rfl
                    simp only [Act.put, List.getElem_toArray, List.getElem_cons_succ, List.getElem_cons_zero, List.setIfInBounds_toArray, List.set_cons_zero, List.set_cons_succ]
                    refine wpAnyM_take (i := 4) (v := ?_) rfl (by kernel_rfl) (by kernel_rfl) (by kernel_rfl) (by kernel_rfl) (fun _ _ _ h => h) hS (Or.inl ⟨by rfl, ?_⟩) ?_
                    rotate_left
                    · intro w1 hS1
                      (try dsimp only at hS1)
                      go_simp
                      try with_reducible rfl
                    simp only [Act.put, List.getElem_toArray, List.getElem_cons_succ, List.getElem_cons_zero, List.setIfInBounds_toArray, List.set_cons_zero, List.set_cons_succ]
                    refine wpAnyM_take (i := 5) (v := ?_) rfl (by kernel_rfl) (by kernel_rfl) (by kernel_rfl) (by kernel_rfl) (fun _ _ _ h => h) hS (Or.inl ⟨by rfl, ?_⟩) ?_
                    rotate_left
                    · intro w1 hS1
                      (try dsimp only at hS1)
                      go_simp
                      try with_reducible rfl
                    simp only [Act.put, List.getElem_toArray, List.getElem_cons_succ, List.getElem_cons_zero, List.setIfInBounds_toArray, List.set_cons_zero, List.set_cons_succ]
                    refine wpAnyM_take (i := 6) (v := ?_) rfl (by kernel_rfl) (by kernel_rfl) (by kernel_rfl) (by kernel_rfl) (fun _ _ _ h => h) hS (Or.inl ⟨by rfl, ?_⟩) ?_
                    rotate_left
                    · intro w1 hS1
                      (try dsimp only at hS1)
                      go_simp
                      try with_reducible rfl
                    simp only [Act.put, List.getElem_toArray, List.getElem_cons_succ, List.getElem_cons_zero, List.setIfInBounds_toArray, List.set_cons_zero, List.set_cons_succ]
                    refine wpAnyM_take (i := 7) (v := ?_) rfl (by kernel_rfl) (by kernel_rfl) (by kernel_rfl) (by kernel_rfl) (fun _ _ _ h => h) hS (Or.inl ⟨by rfl, ?_⟩) ?_
                    rotate_left
                    · intro w1 hS1
                      (try dsimp only at hS1)
                      go_simp
                      try with_reducible rfl
                    simp only [Act.put, List.getElem_toArray, List.getElem_cons_succ, List.getElem_cons_zero, List.setIfInBounds_toArray, List.set_cons_zero, List.set_cons_succ]
                    refine wpAnyM_take (i := 8) (v := ?_) rfl (by kernel_rfl) (by kernel_rfl) (by kernel_rfl) (by kernel_rfl) (fun _ _ _ h => h) hS (Or.inl ⟨by rfl, ?_⟩) ?_
                    rotate_left
                    · intro w1 hS1
                      (try dsimp only at hS1)
                      go_simp
                      try with_reducible rfl
                    simp only [Act.put, List.getElem_toArray, List.getElem_cons_succ, List.getElem_cons_zero, List.setIfInBounds_toArray, List.set_cons_zero, List.set_cons_succ]
                    refine wpAnyM_take (i := 9) (v := ?_) rfl (by kernel_rfl) (by kernel_rfl) (by kernel_rfl) (by kernel_rfl) (fun _ _ _ h => h) hS (Or.inl ⟨by rfl, ?_⟩) ?_
                    rotate_left
                    · intro w1 hS1
                      (try dsimp only at hS1)
                      go_simp
                      try with_reducible rfl
                    simp only [Act.put, List.getElem_toArray, List.getElem_cons_succ, List.getElem_cons_zero, List.setIfInBounds_toArray, List.set_cons_zero, List.set_cons_succ]
                    refine wpAnyM_take (i := 10) (v := ?_) rfl (by kernel_rfl) (by kernel_rfl) (by kernel_rfl) (by kernel_rfl) (fun _ _ _ h => h) hS (Or.inl ⟨by rfl, ?_⟩) ?_
                    rotate_left
                    · intro w1 hS1
                      (try dsimp only at hS1)
                      go_simp
                      try with_reducible rfl
                    simp only [Act.put, List.getElem_toArray, List.getElem_cons_succ, List.getElem_cons_zero, List.setIfInBounds_toArray, List.set_cons_zero, List.set_cons_succ]
                    refine wpAnyM_take (i := 11) (v := ?_) rfl (by kernel_rfl) (by kernel_rfl) (by kernel_rfl) (by kernel_rfl) (fun _ _ _ h => h) hS (Or.inl ⟨by rfl, ?_⟩) ?_
                    rotate_left
                    · intro w1 hS1
                      (try dsimp only at hS1)
                      go_simp
                      try with_reducible rfl
                    simp only [Act.put, List.getElem_toArray, List.getElem_cons_succ, List.getElem_cons_zero, List.setIfInBounds_toArray, List.set_cons_zero, List.set_cons_succ]
                    refine wpAnyM_take (i := 12) (v := ?_) rfl (by kernel_rfl) (by kernel_rfl) (by kernel_rfl) (by kernel_rfl) (fun _ _ _ h => h) hS (Or.inl ⟨by rfl, ?_⟩) ?_
                    rotate_left
                    · intro w1 hS1
                      (try dsimp only at hS1)
                      go_simp
                      try with_reducible rfl
                    simp only [Act.put, List.getElem_toArray, List.getElem_cons_succ, List.getElem_cons_zero, List.setIfInBounds_toArray, List.set_cons_zero, List.set_cons_succ]
                    refine wpAnyM_take (i := 13) (v := ?_) rfl (by kernel_rfl) (by kernel_rfl) (by kernel_rfl) (by kernel_rfl) (fun _ _ _ h => h) hS (Or.inl ⟨by rfl, ?_⟩) ?_
                    rotate_left
                    · intro w1 hS1
                      (try dsimp only at hS1)
                      go_simp
                      try with_reducible rfl
                    simp only [Act.put, List.getElem_toArray, List.getElem_cons_succ, List.getElem_cons_zero, List.setIfInBounds_toArray, List.set_cons_zero, List.set_cons_succ]
                    refine wpAnyM_take (i := 14) (v := ?_) rfl (by kernel_rfl) (by kernel_rfl) (by kernel_rfl) (by kernel_rfl) (fun _ _ _ h => h) hS (Or.inl ⟨by rfl, ?_⟩) ?_
                    rotate_left
                    · intro w1 hS1
                      (try dsimp only at hS1)
                      go_simp
                      try with_reducible rfl
                    simp only [Act.put, List.getElem_toArray, List.getElem_cons_succ, List.getElem_cons_zero, List.setIfInBounds_toArray, List.set_cons_zero, List.set_cons_succ]
                    refine wpAnyM_one (i := 15) rfl (by kernel_rfl) ?_
                    intro K' hK
                    go_wp2_with (fail)
                    refine hK.out _ _ (fun hlt => hSof.out _ _ (H.alloc _) (.tail _ (.tail _ (.head _))) (by simp)) ?_
                    clear hK K'
                    refine wpAnyM_one (i := 16) rfl (by kernel_rfl) ?_
                    intro K' hK
                    go_wp2_with (first | ((with_reducible refine gate_dst (N := 91) rfl ?_); refine wp_append H rfl _ _ _ (.int .i64 0) 8 rfl Try.underlying29 info_int rfl (by decide) (by decide) e.frm [.int .i64 e.frm] rfl rfl (fun _ _ => rfl) (by omega) ?_; clear H; intro v1 W4 H; obtain ⟨A1', c1', rfl⟩ := H.one (.head _); obtain ⟨u, hu, hc1, hf1⟩ := H.cell1 (.tail _ (.tail _ (.head _))) hvv.out; clear hu))
                    refine hK.out _ _ (fun hlt => hSof.out _ _ H (.tail _ (.tail _ (.head _))) (by simp)) ?_
                    clear hK K'
                    refine wpAnyM_one (i := 17) rfl (by kernel_rfl) ?_
                    intro K' hK
                    go_wp2_with (fail)
                    refine hK.out _ _ (fun hlt => absurd hlt (by omega)) ?_
                    clear hK K'
                    refine wpAnyM_one (i := 18) rfl (by kernel_rfl) ?_
                    intro K' hK
                    go_wp2_with (fail)
                    refine hK.out _ _ (fun hlt => absurd hlt (by omega)) ?_
                    clear hK K'
                    refine wpAnyM_done (by kernel_rfl) ?_ _
                    clear hS
                    have H := H.push (l1 := _ :: _ :: l1)
                    rw [List.length_append, List.length_singleton] at H
                    have H := MemM.set1 (MemM.pull1 H) (i := k) (by rw [hvs.out]; exact hlt) (x' := slCell A1' (acc.length + 1) c1') (u := .slice A1' (acc.length + 1) c1') (fun _ _ => rfl)
                    have H := H.pull1
                    rw [List.append_eq, show ∀ (b c : Asr) (l1 l2 : List Asr), l1 ++ b :: (l2 ++ [c]) = l1 ++ b :: l2 ++ [c] from fun b c l1 l2 => by simp] at H
                    go_wp2
                    have e3 := e2.out (slCell A1' (acc.length + 1) c1') (acc ++ [e.frm])
                    rw [List.set_set] at e3
                    go_roundw
                    case rel => exact ⟨i + 1, vs.set k (slCell A1' (acc.length + 1) c1'), by omega, by go_num, by rw [Hid, List.length_set]; exact hvs.out, by rw [hpq.out, e3]; exact H⟩
                    case measure => simp [intOf]; omega
                · obtain rfl : i = (offs k).length := by omega
                  rw [List.take_length] at H
                  have H := H.drop
                  have hln := pick_len ⟨true, apref, acost, atags⟩ (offs k) ek
                  generalize pick ⟨true, apref, acost, atags⟩ (offs k) ek = acc at hrk hln H
                  have hget2 := hide (set_get (ofN row o.length k) k acc (by rw [ofN_len]; exact hlt))
                  obtain ⟨⟨v, hv1⟩, hv⟩ : ∃ v, vs[k]? = some v := ⟨_, List.getElem?_eq_getElem (by rw [hvs.out]; exact hlt)⟩
                  obtain ⟨l1, l2, e1, e2⟩ := rowsOf_split (int .i64) 3 (by rw [hvs.out, List.length_set, ofN_len]) hv hget2.out
                  have e2 := hide e2
                  have hvv := hide hv
                  rw [e1] at H
                  clear e1 hv
                  obtain ⟨A, c, rfl⟩ := H.one (d := int .i64) (e := 3) (v := v) (xs := acc) (by simp)
                  obtain ⟨u, hu, hc0, hf0⟩ := H.cell1 (.head _) hvv.out
                  cases hu
                  rw [show ∀ (r b c : Asr) (l1 l2 : List Asr), r :: (l1 ++ b :: l2 ++ [c]) = (r :: l1) ++ b :: (l2 ++ [c]) from fun r b c l1 l2 => by simp] at H
                  have H := H.pull
                  go_wp2_with (go_at_call 27; refine (sort_mem H (by omega)).mono ?_; rintro e W1 ⟨rfl, H1⟩; clear H hc0 hf0; have H := H1; clear H1)
                  have H := H.push (l1 := _ :: l1)
                  have hset : vs.set k ⟨.slice A acc.length c, hv1⟩ = vs := by
                    obtain ⟨hj, hj2⟩ := List.getElem?_eq_some_iff.1 hvv.out
                    rw [← hj2, List.set_getElem_self]
                  have e3 := e2.out ⟨.slice A acc.length c, hv1⟩ (acc.mergeSort le)
                  rw [List.set_set, ← hrk.out, hnext.out, hrk.out, hset] at e3
                  have hvS := hvS.out
                  subst hvS
                  go_roundw
                  case rel => exact ⟨k + 1, vs, by omega, by go_num, hvs, by rw [e3]; rw [List.append_assoc]; exact H⟩
                  case measure => simp [intOf]; omega
          · have hrk := hide (show row k = [] by
              rw [hrk.out, hwl.out]
              cases hla : l[k]? with
              | none => rfl
              | some a =>
                have : ¬ a.ok = true := fun h => hall ⟨a, hla, h⟩
                simp [this])
            have hsm := hide (hsm.out hrk.out)
            have hlf : (¬ k < l.length) ∨ ∃ adL, AL = some adL ∧ k < l.length ∧ wr.cell? (adL.add (k * 4)) = some (.bool false) := by
              by_cases hkl : k < l.length
              · obtain ⟨adL, e, hx⟩ := (H.arg hL).flat1 (List.getElem?_eq_getElem hkl)
                have hx0 := hx 0 _ rfl
                have : l[k].ok = false := by
                  cases h : l[k].ok
                  · rfl
                  · exact absurd ⟨_, List.getElem?_eq_getElem hkl, h⟩ hall
                rw [this] at hx0
                exact .inr ⟨adL, e, hkl, by simpa using hx0⟩
              · exact .inl hkl
            clear hwl hall
            rcases hsf with hks | ⟨ad1, x, rfl, hks, hxn, hx1⟩
            all_goals
              rcases hlf with hkl | ⟨adL, rfl, hkl, hl0⟩
            all_goals
              go_wp2
              go_roundw
              case rel => exact ⟨k + 1, vs, by omega, by go_num, hvs, by rw [hsm.out]; exact H⟩
              case measure => simp [intOf]; omega
      · have hrk : Hid (ofN row o.length (k + 1) = ofN row o.length k) := ofN_same row _ _ (by rw [hrow.out]; unfold way; rw [List.getD_eq_getElem?_getD, hob]; rfl)
        clear hob
        go_wp2
        go_roundw
        case rel => exact ⟨k + 1, vs, by omega, by go_num, hvs, by rw [hrk.out]; exact H⟩
        case measure => simp [intOf]; omega
    · obtain rfl : k = o.length := by omega
      rw [← hdef.out] at H
      go_wp2
      go_ret
      exact ⟨_, rfl, (MemM.nest (d := int .i64) (by decide) (by rw [hvs.out, hdef.out, ofN_len]) H).pull1.drop⟩
end Go.Proofs.Ytcagkdgpoijkoaa.Of
