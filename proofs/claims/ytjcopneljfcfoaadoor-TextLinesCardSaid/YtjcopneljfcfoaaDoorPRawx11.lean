-- Written by wip/xprint.py of this work: the printer of the kit, with contracts of this work beside it, shortened.
import Derived.Test.YtjcopneljfcfoaaDoorShort
import Derived.Test.YtjcopneljfcfoaaDoorPRawx0
import Derived.Test.YtjcopneljfcfoaaDoorPRawx8
import Derived.Test.YtjcopneljfcfoaaDoorPRawx10
namespace Go.Proofs.YtjcopneljfcfoaaDoor.PRaw
open Go.RowKit Go.Proofs.YtjcopneljfcfoaaDoor.Short Go.Proofs.YtjcopneljfcfoaaDoorW.PrintWords Go.Proofs.YtjcopneljfcfoaaDoorW.PrintLast Go.Proofs.YtjcopneljfcfoaaDoorW.PrintMore
attribute [local go_sem] max2_int min2_int max_two min_two max_three min_three max_four min_four   -- for this text's walks alone
set_option linter.unusedVariables false
set_option linter.unusedSimpArgs false

/-! ### text_Config: function 10 -/
def text_Config.clText (k : Nat) : List S41 → Option (List UInt8)
 | [] => some []
 | c :: r => (text_Clause.f k c.f0 c.f1.f0 c.f1.f1 c.f2 c.f3 c.f4 c.f5 c.f6 c.f7 c.f8).bind fun t => (text_Config.clText k r).bind fun u => some (t.data.toList ++ u)
def text_Config.mpText (k : Nat) : List S36 → Option (List UInt8)
 | [] => some []
 | m :: r => (text_Config.clText k m.f1).bind fun t => (text_Config.mpText k r).bind fun u => some (([109, 97, 112, 32] ++ m.f0.data.toList ++ [32, 123, 10]) ++ t ++ [125, 10] ++ u)
def text_Config.rtText (k : Nat) : List S46 → Option (List UInt8)
 | [] => some []
 | r :: l => (text_router.f k r.f0 r.f1 r.f2 r.f3 r.f4).bind fun t => (text_Config.rtText k l).bind fun u => some (t.data.toList ++ u)
def text_Config.f (k : Nat) (l0_0 : List S36) (l0_1 : List S46) : Option ByteArray :=
 (text_Config.mpText k l0_0).bind fun a => (text_Config.rtText k l0_1).bind fun b => if a.length + b.length ≤ 140737488355328 then some ⟨(a ++ b).toArray⟩ else none
theorem text_Config.clMono (k : Nat) : ∀ l r, text_Config.clText k l = some r → text_Config.clText (k + 1) l = some r
 | [], r, h => h
 | c :: l, r, h => by
  unfold text_Config.clText at h ⊢
  simp only [Option.bind_eq_some_iff] at h
  obtain ⟨t, h1, u, h2, h3⟩ := h
  rw [text_Clause.mono _ _ _ _ _ _ _ _ _ _ _ _ h1, Option.bind_some, text_Config.clMono k l u h2, Option.bind_some, h3]
theorem text_Config.mpMono (k : Nat) : ∀ l r, text_Config.mpText k l = some r → text_Config.mpText (k + 1) l = some r
 | [], r, h => h
 | c :: l, r, h => by
  unfold text_Config.mpText at h ⊢
  simp only [Option.bind_eq_some_iff] at h
  obtain ⟨t, h1, u, h2, h3⟩ := h
  rw [text_Config.clMono k _ t h1, Option.bind_some, text_Config.mpMono k l u h2, Option.bind_some, h3]
theorem text_Config.rtMono (k : Nat) : ∀ l r, text_Config.rtText k l = some r → text_Config.rtText (k + 1) l = some r
 | [], r, h => h
 | c :: l, r, h => by
  unfold text_Config.rtText at h ⊢
  simp only [Option.bind_eq_some_iff] at h
  obtain ⟨t, h1, u, h2, h3⟩ := h
  rw [text_router.mono _ _ _ _ _ _ _ h1, Option.bind_some, text_Config.rtMono k l u h2, Option.bind_some, h3]
theorem text_Config.mono : ∀ a0 a1 k, LeO (text_Config.f k a0 a1) (text_Config.f (k + 1) a0 a1) := by
 intro a0 a1 k r h
 unfold text_Config.f at h ⊢
 simp only [Option.bind_eq_some_iff] at h
 obtain ⟨t, h1, u, h2, h3⟩ := h
 rw [text_Config.mpMono k _ t h1, Option.bind_some, text_Config.rtMono k _ u h2, Option.bind_some, h3]
theorem text_Config.infoMap : (Tryd.prog.info? 36).map (·.zero) = some (some (.agg #[.string ByteArray.empty, .slice none 0 0, .int .i64 0])) := by kernel_rfl
theorem text_Config.infoRt : (Tryd.prog.info? 46).map (·.zero) = some (some (.agg #[.string ByteArray.empty, .slice none 0 0, .slice none 0 0, .slice none 0 0, .int .i64 0])) := by kernel_rfl
theorem text_Config.infoCl : (Tryd.prog.info? 41).map (·.zero) = some (some (.agg #[.bool false, .int .u32 0, .int .i64 0, .int .u8 0, .int .u8 0, .bool false, .int .u8 0, .int .u8 0, .int .i64 0, .int .i64 0])) := by kernel_rfl
open Go.Proofs.YtjcopneljfcfoaaDoor.Mq Go.Proofs.YtjcopneljfcfoaaDoor.Bld Go.Proofs.YtjcopneljfcfoaaDoor.Inv in
set_option maxHeartbeats 4000000 in
set_option maxRecDepth 100000 in
theorem text_Config.calls (k : Nat) (A0_0 : Option Addr) (c0_0 : Nat) (l0_0 : List S36) (A0_1 : Option Addr) (c0_1 : Nat) (l0_1 : List S46) (r : ByteArray) (w : World) (hr0_0 : Kd.C k36 w A0_0 l0_0.length l0_0) (hc0_0 : l0_0.length ≤ c0_0) (hr0_1 : Kd.C k46 w A0_1 l0_1.length l0_1) (hc0_1 : l0_1.length ≤ c0_1) (h : text_Config.f k l0_0 l0_1 = some r) (hInv : Go.Proofs.YtjcopneljfcfoaaDoor.Inv.Inv w) :
  Calls Tryd.prog 10 #[.agg #[.slice A0_0 l0_0.length c0_0, .slice A0_1 l0_1.length c0_1]] w fun e w' => e = .returned (.string r) ∧ Below w.heap.size w w' := by
 unfold text_Config.f at h
 simp only [Option.bind_eq_some_iff] at h
 obtain ⟨am, hM, ar, hR, h⟩ := h
 split at h
 ·rename_i hlim
  have hres := hide (Option.some.inj h)
  obtain ⟨tot, htot⟩ : ∃ tot, am ++ ar = tot := ⟨_, rfl⟩
  rw [htot] at hres
  have hlt2 : tot.length ≤ 140737488355328 := by rw [← htot]; simpa using hlim
  have hlim : am.length ≤ 140737488355328 := by omega
  replace hlt2 := hide hlt2
  replace htot := hide htot
  replace hR := hide hR
  clear h
  replace hM := hide hM
  replace hlim := hide hlim
  replace hInv := hide hInv
  have hlen0 := hr0_0.2.1
  have hlen1r := hr0_1.2.1
  go_enter Tryd.func10, Tryd.ntmps10
  go_wp2_with fail
  have e1 : (w.alloc (.cells #[.slice A0_0 l0_0.length c0_0, .slice A0_1 l0_1.length c0_1] 30)).heap.size = w.heap.size + 1 := by simp
  have hI0 : IsB (w.heap.size + 1) (w.heap.size + 1) [] ((w.alloc (.cells #[.slice A0_0 l0_0.length c0_0, .slice A0_1 l0_1.length c0_1] 30)).alloc (.cells #[.pointer none, .slice none 0 0] 63)) := by
   have := Lib.IsBuilderF.of (Lib.fresh_isBuilder 63 5 (w.alloc (.cells #[.slice A0_0 l0_0.length c0_0, .slice A0_1 l0_1.length c0_1] 30)))
   rw [e1] at this
   exact this
  have hb0 : Below w.heap.size w ((w.alloc (.cells #[.slice A0_0 l0_0.length c0_0, .slice A0_1 l0_1.length c0_1] 30)).alloc (.cells #[.pointer none, .slice none 0 0] 63)) := ((Below.refl _ w).alloc (Nat.le_refl _) _).alloc (by rw [e1]; omega) _
  have hg0 : ((w.alloc (.cells #[.slice A0_0 l0_0.length c0_0, .slice A0_1 l0_1.length c0_1] 30)).alloc (.cells #[.pointer none, .slice none 0 0] 63)).heap[w.heap.size]? = some (.cells #[.slice A0_0 l0_0.length c0_0, .slice A0_1 l0_1.length c0_1] 30 (0, 0)) := by
   rw [heap_alloc_old _ _ (by rw [e1]; omega)]
   exact heap_alloc_new w _
  have hs0 : w.heap.size + 1 < ((w.alloc (.cells #[.slice A0_0 l0_0.length c0_0, .slice A0_1 l0_1.length c0_1] 30)).alloc (.cells #[.pointer none, .slice none 0 0] 63)).heap.size := by simp
  generalize ((w.alloc (.cells #[.slice A0_0 l0_0.length c0_0, .slice A0_1 l0_1.length c0_1] 30)).alloc (.cells #[.pointer none, .slice none 0 0] 63)) = W1 at hI0 hb0 hg0 hs0 ⊢
  generalize hbe : w.heap.size + 1 = b at hI0 hs0 ⊢
  clear e1
  go_loopw [13] (fun v13 wr => ∃ (i : Nat) (acc rest : List UInt8), i ≤ l0_0.length ∧ v13 = .int .i64 i ∧ Hid (text_Config.mpText k (l0_0.drop i) = some rest ∧ acc ++ rest = am) ∧ IsB b b acc wr ∧ Below b W1 wr) (fun v13 _ => l0_0.length - (intOf v13).toNat)
  case atStart => exact ⟨0, [], am, Nat.zero_le _, rfl, ⟨hM.out, rfl⟩, hI0, Below.refl _ _⟩
  case round =>
   clear hM hI0
   obtain ⟨i, acc, rest, hi, rfl, hacc, hI, hbw⟩ := hrel
   have hbw0 : Below w.heap.size w wr := hb0.trans (hbw.mono (by omega))
   have hsr : b < wr.heap.size := Nat.lt_of_lt_of_le hs0 hbw.size
   by_cases hlt : i < l0_0.length
   ·obtain ⟨m, hm⟩ : ∃ m, l0_0[i]? = some m := ⟨_, List.getElem?_eq_getElem hlt⟩
    have hd : l0_0.drop i = m :: l0_0.drop (i + 1) := by rw [List.drop_eq_getElem_cons hlt]; congr 1; rw [List.getElem?_eq_getElem hlt] at hm; injection hm
    obtain ⟨tc, tr, hc, hr, hrest⟩ : ∃ tc tr, text_Config.clText k m.f1 = some tc ∧ text_Config.mpText k (l0_0.drop (i + 1)) = some tr ∧ rest = ([109, 97, 112, 32] ++ m.f0.data.toList ++ [32, 123, 10]) ++ tc ++ [125, 10] ++ tr := by
     have h1 := hacc.out.1
     rw [hd] at h1
     unfold text_Config.mpText at h1
     simp only [Option.bind_eq_some_iff] at h1
     obtain ⟨t, h1, u, h2, h3⟩ := h1
     exact ⟨t, u, h1, h2, (Option.some.inj h3).symm⟩
    clear hd
    have hal : acc.length + (m.f0.size + 7 + tc.length + 2 + tr.length) ≤ 140737488355328 := by
     have h1 := hlim.out
     rw [← hacc.out.2, hrest] at h1
     have e : m.f0.data.toList.length = m.f0.size := Array.length_toList
     simp only [List.length_append, e] at h1
     simp at h1
     omega
    replace hc := hide hc
    replace hr := hide hr
    replace hal := hide hal
    have hac2 : Hid (acc ++ (([109, 97, 112, 32] ++ m.f0.data.toList ++ [32, 123, 10]) ++ tc ++ [125, 10] ++ tr) = am) := hide (by rw [← hrest]; exact hacc.out.2)
    clear hacc hrest rest
    obtain ⟨ad, rfl, hrow⟩ := hr0_0.2.2 (by omega)
    obtain ⟨cs0, _, hK, hx0⟩ := hrow i m hm
    obtain ⟨A1, n1, rfl, hc1, hr1⟩ := k36_open hK
    have hx : Hid (∀ (j : Nat) u, ([.string m.f0, .slice A1 m.f1.length n1, .int .i64 m.f2] : List Value)[j]? = some u → wr.cell? (ad.add (i * 3 + j)) = some u) := hide (fun j u hu => cell_below (hx0 j u hu) hbw0)
    have hlen1 : m.f1.length ≤ 9223372036854775807 := hr1.2.1
    clear hx0 hK hrow
    have z1 : (9223372036854775807 < 4 + m.f0.size) = False := eq_false (by have := hal.out; omega)
    have z2 : (9223372036854775807 < 4 + m.f0.size + 3) = False := eq_false (by have := hal.out; omega)
    have H := MemM.start wr
    go_wp2_with (first
     | ((with_reducible refine Go.Proofs.YtjcopneljfcfoaaDoor.Mq.gate_dst (N := 16) rfl ?_); refine wp_ldcells [.string m.f0, .slice A1 m.f1.length n1, .int .i64 m.f2] hx.out rfl _ _ rfl rfl _ Tryd.underlying36 rfl (by kernel_rfl) ?_)
     | ((with_reducible refine Go.Proofs.YtjcopneljfcfoaaDoor.Mq.gate_dst (N := 5) rfl ?_); refine wp_alloc H rfl _ rfl _ text_Config.infoMap _ rfl ?_; clear H hx; intro gm W2 H)
     | (refine wp_stbox H rfl _ _ _ rfl 0 rfl _ rfl _ rfl (by kernel_rfl) rfl (Nat.le_of_ble_eq_true rfl) [.string m.f0, .slice A1 m.f1.length n1, .int .i64 m.f2] rfl ?_; clear H; intro W3 H; have x0 := box_cell (j := 0) (box_at H).1 rfl)
     | (go_at_call 19; refine (write_calls b b acc _ _ (hI.below H.below) (by have := hal.out; simp only [ByteArray.size_append]; have e1 : (⟨#[109, 97, 112, 32]⟩ : ByteArray).size = 4 := rfl; have e2 : (⟨#[32, 123, 10]⟩ : ByteArray).size = 3 := rfl; omega) (by have := H.below.size; omega)).mono ?_; rintro e W4 ⟨rfl, hI4, hb4, hk4⟩; have hg4 := box_kept (box_at H).1 hk4 (by have := (box_at H).2; omega) (by decide); have x1 := box_cell (j := 1) hg4 rfl))
    have hbr4 : Below b wr W4 := (H.below.mono (Nat.le_of_lt hsr)).trans hb4
    have hs4 : b < W4.heap.size := Nat.lt_of_lt_of_le hsr hbr4.size
    replace hI4 : IsB b b (acc ++ ([109, 97, 112, 32] ++ m.f0.data.toList ++ [32, 123, 10])) W4 := by simpa using hI4
    clear x0 x1 hg4 hk4 hb4 H z1 z2
    generalize hac3 : acc ++ ([109, 97, 112, 32] ++ m.f0.data.toList ++ [32, 123, 10]) = acc2 at hI4
    have hac2' : Hid (acc2 ++ (tc ++ ([125, 10] ++ tr)) = am) := hide (by rw [← hac3, ← hac2.out]; simp)
    have hal2 : Hid (acc2.length + (tc.length + 2 + tr.length) ≤ 140737488355328) := hide (by
     have := hal.out
     rw [← hac3]
     have e : m.f0.data.toList.length = m.f0.size := Array.length_toList
     simp only [List.length_append, e]
     simp
     omega)
    clear hac2 hal hac3
    go_loopw [25] (fun v25 W => ∃ (j : Nat) (acc' rest : List UInt8), j ≤ m.f1.length ∧ v25 = .int .i64 j ∧ Hid (text_Config.clText k (m.f1.drop j) = some rest ∧ acc' ++ rest = acc2 ++ tc) ∧ IsB b b acc' W ∧ Below b wr W) (fun v25 _ => m.f1.length - (intOf v25).toNat)
    case atStart => exact ⟨0, acc2, tc, Nat.zero_le _, rfl, ⟨hc.out, rfl⟩, hI4, hbr4⟩
    case round =>
     clear hc hI4 hs4
     obtain ⟨j, acc', rest, hj, rfl, hacc, hIw, hbi⟩ := hrel
     have hbj0 : Below w.heap.size w wr := hbw0.trans (hbi.mono (by omega))
     have hsj : b < wr.heap.size := Nat.lt_of_lt_of_le hsr hbi.size
     by_cases hjt : j < m.f1.length
     ·obtain ⟨c, hcm⟩ : ∃ c, m.f1[j]? = some c := ⟨_, List.getElem?_eq_getElem hjt⟩
      have hd : m.f1.drop j = c :: m.f1.drop (j + 1) := by rw [List.drop_eq_getElem_cons hjt]; congr 1; rw [List.getElem?_eq_getElem hjt] at hcm; injection hcm
      obtain ⟨t1, t2, ht1, ht2, hrest⟩ : ∃ t1 t2, text_Clause.f k c.f0 c.f1.f0 c.f1.f1 c.f2 c.f3 c.f4 c.f5 c.f6 c.f7 c.f8 = some t1 ∧ text_Config.clText k (m.f1.drop (j + 1)) = some t2 ∧ rest = t1.data.toList ++ t2 := by
       have h1 := hacc.out.1
       rw [hd] at h1
       unfold text_Config.clText at h1
       simp only [Option.bind_eq_some_iff] at h1
       obtain ⟨t, h1, u, h2, h3⟩ := h1
       exact ⟨t, u, h1, h2, (Option.some.inj h3).symm⟩
      clear hd
      have e1 : t1.data.toList.length = t1.size := Array.length_toList
      have hlj : acc'.length + t1.size ≤ 140737488355328 := by
       have h1 := congrArg List.length hacc.out.2
       have h2 := hal2.out
       rw [hrest] at h1
       simp only [List.length_append, e1] at h1
       omega
      have hac4 : Hid (text_Config.clText k (m.f1.drop (j + 1)) = some t2 ∧ (acc' ++ t1.data.toList) ++ t2 = acc2 ++ tc) := hide ⟨ht2, by rw [← hacc.out.2, hrest, List.append_assoc]⟩
      replace ht1 := hide ht1
      replace hlj := hide hlj
      clear hacc hrest ht2 rest e1
      obtain ⟨ad1, rfl, hrow1⟩ := hr1.2.2 (by omega)
      obtain ⟨cs1, _, hK1, hx1⟩ := hrow1 j c hcm
      obtain rfl := k41_open hK1
      have hx : Hid (∀ (q : Nat) u, ([.bool c.f0, .int .u32 c.f1.f0, .int .i64 c.f1.f1, .int .u8 c.f2, .int .u8 c.f3, .bool c.f4, .int .u8 c.f5, .int .u8 c.f6, .int .i64 c.f7, .int .i64 c.f8] : List Value)[q]? = some u → wr.cell? (ad1.add (j * 10 + q)) = some u) := hide (fun q u hu => cell_below (hx1 q u hu) hbj0)
      clear hx1 hK1 hrow1
      have H := MemM.start wr
      go_wp2_with (first
       | ((with_reducible refine Go.Proofs.YtjcopneljfcfoaaDoor.Mq.gate_dst (N := 28) rfl ?_); refine wp_ldcells [.bool c.f0, .int .u32 c.f1.f0, .int .i64 c.f1.f1, .int .u8 c.f2, .int .u8 c.f3, .bool c.f4, .int .u8 c.f5, .int .u8 c.f6, .int .i64 c.f7, .int .i64 c.f8] hx.out rfl _ _ rfl rfl _ Tryd.underlying41 rfl (by kernel_rfl) ?_)
       | ((with_reducible refine Go.Proofs.YtjcopneljfcfoaaDoor.Mq.gate_dst (N := 7) rfl ?_); refine wp_alloc H rfl _ rfl _ text_Config.infoCl _ rfl ?_; clear H hx; intro gx W5 H)
       | (refine wp_stbox H rfl _ _ _ rfl 0 rfl _ rfl _ rfl (by kernel_rfl) rfl (Nat.le_of_ble_eq_true rfl) [.bool c.f0, .int .u32 c.f1.f0, .int .i64 c.f1.f1, .int .u8 c.f2, .int .u8 c.f3, .bool c.f4, .int .u8 c.f5, .int .u8 c.f6, .int .i64 c.f7, .int .i64 c.f8] rfl ?_; clear H; intro W6 H)
       | ((with_reducible refine Go.Proofs.YtjcopneljfcfoaaDoor.Mq.gate_dst (N := 29) rfl ?_); refine wp_ldbox (.head _) H rfl _ _ rfl 0 10 rfl _ Tryd.underlying41 rfl [.bool c.f0, .int .u32 c.f1.f0, .int .i64 c.f1.f1, .int .u8 c.f2, .int .u8 c.f3, .bool c.f4, .int .u8 c.f5, .int .u8 c.f6, .int .i64 c.f7, .int .i64 c.f8] rfl (by kernel_rfl) ?_)
       | (go_at_call 13; refine (text_Clause.calls k c.f0 c.f1.f0 c.f1.f1 c.f2 c.f3 c.f4 c.f5 c.f6 c.f7 c.f8 t1 _ ht1.out (hInv.out.below (hbj0.trans (H.below.mono hbj0.size)))).mono ?_; rintro e W7 ⟨rfl, hb7⟩)
       | (go_at_call 19; refine (write_calls b b acc' t1 _ ((hIw.below H.below).below hb7) hlj.out (by have := H.below.size; have := hb7.size; omega)).mono ?_; rintro e W8 ⟨rfl, hI8, hb8, hk8⟩))
      go_roundw
      case rel => exact ⟨j + 1, acc' ++ t1.data.toList, t2, by omega, by go_num, hac4, hI8, hbi.trans (((H.below.mono (Nat.le_of_lt hsj)).trans (hb7.mono (by have := H.below.size; omega))).trans hb8)⟩
      case measure => simp [intOf]; omega
     ·obtain rfl : j = m.f1.length := by omega
      obtain rfl : rest = [] := by
       have h1 := hacc.out.1
       rw [List.drop_length] at h1
       exact (Option.some.inj h1).symm
      have hac5 : Hid (text_Config.mpText k (l0_0.drop (i + 1)) = some tr ∧ (acc' ++ [125, 10]) ++ tr = am) := hide ⟨hr.out, by
       have h1 := hacc.out.2
       rw [List.append_nil] at h1
       rw [h1, ← hac2'.out]
       simp⟩
      have hl5 : Hid (acc'.length + 2 ≤ 140737488355328) := hide (by
       have h1 := hacc.out.2
       rw [List.append_nil] at h1
       rw [h1]
       have := hal2.out
       simp
       omega)
      clear hacc
      go_wp2_with (first
       | (go_at_call 19; refine (write_calls b b acc' (⟨#[125, 10]⟩ : ByteArray) _ hIw hl5.out (by omega)).mono ?_; rintro e W9 ⟨rfl, hI9, hb9, hk9⟩))
      go_roundw
      case rel => exact ⟨i + 1, acc' ++ [125, 10], tr, by omega, by go_num, hac5, hI9, hbw.trans (hbi.trans hb9)⟩
      case measure => simp [intOf]; omega
   ·obtain rfl : i = l0_0.length := by omega
    obtain rfl : rest = [] := by
     have h1 := hacc.out.1
     rw [List.drop_length] at h1
     exact (Option.some.inj h1).symm
    obtain rfl : acc = am := by
     have h1 := hacc.out.2
     rwa [List.append_nil] at h1
    have hg1 : wr.heap[w.heap.size]? = some (.cells ([.slice A0_0 l0_0.length c0_0, .slice A0_1 l0_1.length c0_1] : List Value).toArray 30 (0, 0)) := by
     rw [hbw.block _ (by omega)]
     exact hg0
    have x1 := box_cell (j := 1) hg1 rfl
    go_wp2_with fail
    go_loopw [38] (fun v38 W => ∃ (j : Nat) (acc' rest : List UInt8), j ≤ l0_1.length ∧ v38 = .int .i64 j ∧ Hid (text_Config.rtText k (l0_1.drop j) = some rest ∧ acc' ++ rest = tot) ∧ IsB b b acc' W ∧ Below b wr W) (fun v38 _ => l0_1.length - (intOf v38).toNat)
    case atStart => exact ⟨0, acc, ar, Nat.zero_le _, rfl, ⟨hR.out, htot.out⟩, hI, Below.refl _ _⟩
    case round =>
     clear hR hI
     obtain ⟨j, acc', rest, hj, rfl, hacc, hIw, hbi⟩ := hrel
     have hbj0 : Below w.heap.size w wr := hbw0.trans (hbi.mono (by omega))
     have hsj : b < wr.heap.size := Nat.lt_of_lt_of_le hsr hbi.size
     by_cases hjt : j < l0_1.length
     ·obtain ⟨c, hcm⟩ : ∃ c, l0_1[j]? = some c := ⟨_, List.getElem?_eq_getElem hjt⟩
      have hd : l0_1.drop j = c :: l0_1.drop (j + 1) := by rw [List.drop_eq_getElem_cons hjt]; congr 1; rw [List.getElem?_eq_getElem hjt] at hcm; injection hcm
      obtain ⟨t1, t2, ht1, ht2, hrest⟩ : ∃ t1 t2, text_router.f k c.f0 c.f1 c.f2 c.f3 c.f4 = some t1 ∧ text_Config.rtText k (l0_1.drop (j + 1)) = some t2 ∧ rest = t1.data.toList ++ t2 := by
       have h1 := hacc.out.1
       rw [hd] at h1
       unfold text_Config.rtText at h1
       simp only [Option.bind_eq_some_iff] at h1
       obtain ⟨t, h1, u, h2, h3⟩ := h1
       exact ⟨t, u, h1, h2, (Option.some.inj h3).symm⟩
      clear hd
      have e1 : t1.data.toList.length = t1.size := Array.length_toList
      have hlj : acc'.length + t1.size ≤ 140737488355328 := by
       have h1 := congrArg List.length hacc.out.2
       have h2 := hlt2.out
       rw [hrest] at h1
       simp only [List.length_append, e1] at h1
       omega
      have hac4 : Hid (text_Config.rtText k (l0_1.drop (j + 1)) = some t2 ∧ (acc' ++ t1.data.toList) ++ t2 = tot) := hide ⟨ht2, by rw [← hacc.out.2, hrest, List.append_assoc]⟩
      replace ht1 := hide ht1
      replace hlj := hide hlj
      clear hacc hrest ht2 rest e1
      obtain ⟨ad1, rfl, hrow1⟩ := hr0_1.2.2 (by omega)
      obtain ⟨cs1, _, hK1, hx1⟩ := hrow1 j c hcm
      obtain ⟨B1, n1, B2, n2, B3, n3, rfl, hc1, hn1, hc2, hn2, hc3, hn3⟩ := k46_open hK1
      have hx : Hid (∀ (q : Nat) u, ([.string c.f0, .slice B1 c.f1.length n1, .slice B2 c.f2.length n2, .slice B3 c.f3.length n3, .int .i64 c.f4] : List Value)[q]? = some u → wr.cell? (ad1.add (j * 5 + q)) = some u) := hide (fun q u hu => cell_below (hx1 q u hu) hbj0)
      clear hx1 hK1 hrow1
      have H := MemM.start wr
      go_wp2_with (first
       | ((with_reducible refine Go.Proofs.YtjcopneljfcfoaaDoor.Mq.gate_dst (N := 41) rfl ?_); refine wp_ldcells [.string c.f0, .slice B1 c.f1.length n1, .slice B2 c.f2.length n2, .slice B3 c.f3.length n3, .int .i64 c.f4] hx.out rfl _ _ rfl rfl _ Tryd.underlying46 rfl (by kernel_rfl) ?_)
       | ((with_reducible refine Go.Proofs.YtjcopneljfcfoaaDoor.Mq.gate_dst (N := 9) rfl ?_); refine wp_alloc H rfl _ rfl _ text_Config.infoRt _ rfl ?_; clear H hx; intro gx W5 H)
       | (refine wp_stbox H rfl _ _ _ rfl 0 rfl _ rfl _ rfl (by kernel_rfl) rfl (Nat.le_of_ble_eq_true rfl) [.string c.f0, .slice B1 c.f1.length n1, .slice B2 c.f2.length n2, .slice B3 c.f3.length n3, .int .i64 c.f4] rfl ?_; clear H; intro W6 H)
       | ((with_reducible refine Go.Proofs.YtjcopneljfcfoaaDoor.Mq.gate_dst (N := 42) rfl ?_); refine wp_ldbox (.head _) H rfl _ _ rfl 0 5 rfl _ Tryd.underlying46 rfl [.string c.f0, .slice B1 c.f1.length n1, .slice B2 c.f2.length n2, .slice B3 c.f3.length n3, .int .i64 c.f4] rfl (by kernel_rfl) ?_)
       | (go_at_call 20; refine (text_router.calls k c.f0 B1 n1 c.f1 B2 n2 c.f2 B3 n3 c.f3 c.f4 t1 _ (Kd.C_below hn1 (hbj0.trans (H.below.mono hbj0.size))) hc1 (Kd.C_below hn2 (hbj0.trans (H.below.mono hbj0.size))) hc2 (Kd.C_below hn3 (hbj0.trans (H.below.mono hbj0.size))) hc3 ht1.out (hInv.out.below (hbj0.trans (H.below.mono hbj0.size)))).mono ?_; rintro e W7 ⟨rfl, hb7⟩)
       | (go_at_call 19; refine (write_calls b b acc' t1 _ ((hIw.below H.below).below hb7) hlj.out (by have := H.below.size; have := hb7.size; omega)).mono ?_; rintro e W8 ⟨rfl, hI8, hb8, hk8⟩))
      go_roundw
      case rel => exact ⟨j + 1, acc' ++ t1.data.toList, t2, by omega, by go_num, hac4, hI8, hbi.trans (((H.below.mono (Nat.le_of_lt hsj)).trans (hb7.mono (by have := H.below.size; omega))).trans hb8)⟩
      case measure => simp [intOf]; omega
     ·obtain rfl : j = l0_1.length := by omega
      obtain rfl : rest = [] := by
       have h1 := hacc.out.1
       rw [List.drop_length] at h1
       exact (Option.some.inj h1).symm
      obtain rfl : acc' = tot := by
       have h1 := hacc.out.2
       rwa [List.append_nil] at h1
      go_wp2_with (first
       | (go_at_call 21; refine (string_calls b b acc' _ hIw (by omega)).mono ?_; rw [hres.out]; rintro e W9 ⟨rfl, hb9⟩))
      go_ret
      exact ⟨rfl, hbj0.trans (hb9.mono (by omega))⟩
 ·cases h

end Go.Proofs.YtjcopneljfcfoaaDoor.PRaw
