-- Written by wip/xprint.py of this work: the printer of the kit, with contracts of this work beside it, shortened.
import Derived.Test.YtjcopneljfcfoaaDoorShort
import Derived.Test.YtjcopneljfcfoaaDoorPRawx0
import Derived.Test.YtjcopneljfcfoaaDoorJ2
import Derived.Test.YtjcopneljfcfoaaDoorPRawx5
import Derived.Test.YtjcopneljfcfoaaDoorPRawx9
namespace Go.Proofs.YtjcopneljfcfoaaDoor.PRaw
open Go.RowKit Go.Proofs.YtjcopneljfcfoaaDoor.Short Go.Proofs.YtjcopneljfcfoaaDoorW.PrintWords Go.Proofs.YtjcopneljfcfoaaDoorW.PrintLast Go.Proofs.YtjcopneljfcfoaaDoorW.PrintMore
attribute [local go_sem] max2_int min2_int max_two min_two max_three min_three max_four min_four   -- for this text's walks alone
set_option linter.unusedVariables false
set_option linter.unusedSimpArgs false

/-! ### text_router: function 20 -/
def text_router.netText (k : Nat) : List S39 → Option (List UInt8)
 | [] => some []
 | p :: r => (prefix_Text.f k p.f0 p.f1).bind fun t => (text_router.netText k r).bind fun u => some ([9, 110, 101, 116, 32] ++ t.data.toList ++ [59, 10] ++ u)
def text_router.linkText : List S48 → Option (List UInt8)
 | [] => some []
 | l :: r => (strconv_Itoa.f l.f1).bind fun t => (text_name.f (⟨#[105, 109, 112, 111, 114, 116]⟩ : ByteArray) l.f2).bind fun a => (text_name.f (⟨#[101, 120, 112, 111, 114, 116]⟩ : ByteArray) l.f3).bind fun b => (text_router.linkText r).bind fun u =>
   some ([9, 108, 105, 110, 107, 32] ++ l.f0.data.toList ++ [32, 99, 111, 115, 116, 32] ++ t.data.toList ++ a.data.toList ++ b.data.toList ++ [59, 10] ++ u)
def text_router.statText (k : Nat) : List S60 → Option (List UInt8)
 | [] => some []
 | p :: r => (prefix_Text.f k p.f0.f0 p.f0.f1).bind fun t => (text_router.statText k r).bind fun u => some ([9, 115, 116, 97, 116, 105, 99, 32] ++ t.data.toList ++ [32, 118, 105, 97, 32] ++ p.f1.data.toList ++ [59, 10] ++ u)
def text_router.f (k : Nat) (a0_0 : ByteArray) (l0_1 : List S39) (l0_2 : List S48) (l0_3 : List S60) (a0_4 : Int) : Option ByteArray :=
 (text_router.netText k l0_1).bind fun a => (text_router.linkText l0_2).bind fun b => (text_router.statText k l0_3).bind fun c =>
  if a0_0.size + 10 + a.length + b.length + c.length + 2 ≤ 140737488355328 then some ⟨(([114, 111, 117, 116, 101, 114, 32] ++ a0_0.data.toList ++ [32, 123, 10]) ++ a ++ b ++ c ++ [125, 10]).toArray⟩ else none
theorem text_router.netMono (k : Nat) : ∀ l r, text_router.netText k l = some r → text_router.netText (k + 1) l = some r
 | [], r, h => h
 | c :: l, r, h => by
  unfold text_router.netText at h ⊢
  simp only [Option.bind_eq_some_iff] at h
  obtain ⟨t, h1, u, h2, h3⟩ := h
  rw [prefix_Text.mono _ _ _ _ h1, Option.bind_some, text_router.netMono k l u h2, Option.bind_some, h3]
theorem text_router.statMono (k : Nat) : ∀ l r, text_router.statText k l = some r → text_router.statText (k + 1) l = some r
 | [], r, h => h
 | c :: l, r, h => by
  unfold text_router.statText at h ⊢
  simp only [Option.bind_eq_some_iff] at h
  obtain ⟨t, h1, u, h2, h3⟩ := h
  rw [prefix_Text.mono _ _ _ _ h1, Option.bind_some, text_router.statMono k l u h2, Option.bind_some, h3]
theorem text_router.mono : ∀ a0 a1 a2 a3 a4 k, LeO (text_router.f k a0 a1 a2 a3 a4) (text_router.f (k + 1) a0 a1 a2 a3 a4) := by
 intro a0 a1 a2 a3 a4 k r h
 unfold text_router.f at h ⊢
 simp only [Option.bind_eq_some_iff] at h
 obtain ⟨t, h1, u, h2, v, h3, h4⟩ := h
 rw [text_router.netMono k _ t h1, Option.bind_some, h2, Option.bind_some, text_router.statMono k _ v h3, Option.bind_some, h4]
theorem text_router.infoNet : (Tryd.prog.info? 39).map (·.zero) = some (some (.agg #[.int .u32 0, .int .i64 0])) := by kernel_rfl
theorem text_router.infoLink : (Tryd.prog.info? 48).map (·.zero) = some (some (.agg #[.string ByteArray.empty, .int .i64 0, .string ByteArray.empty, .string ByteArray.empty, .int .i64 0])) := by kernel_rfl
theorem text_router.infoStat : (Tryd.prog.info? 60).map (·.zero) = some (some (.agg #[.int .u32 0, .int .i64 0, .string ByteArray.empty, .int .i64 0])) := by kernel_rfl
def text_router.T11 : Bool × List (List Nat × List Nat) := (true, [([], []), ([0], [0]), ([1], [1]), ([2], [2]), ([], []), ([4], [4]), ([5], [5]), ([3, 6], [3, 6]), ([], []), ([8], [8]), ([9, 6], [9]), ([7, 10], [7, 10]), ([], []), ([12], [12]), ([13, 10], [13]), ([11, 14], [11, 14]), ([15], [15]), ([16, 14], [16])])
def text_router.B11 : List Nat := [0, 1, 3, 7, 0, 16, 48, 127, 0, 256, 880, 2047, 0, 4096, 14192, 32767, 65535, 131071]
theorem text_router.tab11 : rtab .any (opsOf Tryd.f20 11) = text_router.T11 := by kernel_rfl
theorem text_router.bits11 : waitsOk text_router.T11.2 text_router.B11 = true := by kernel_rfl
def text_router.T16 : Bool × List (List Nat × List Nat) := (true, [([], []), ([0], [0]), ([1], [1]), ([2], [2]), ([3], [3]), ([], []), ([5], [5]), ([4, 6], [4, 6]), ([7], [7]), ([8, 2], [8])])
def text_router.B16 : List Nat := [0, 1, 3, 7, 15, 0, 32, 127, 255, 511]
theorem text_router.tab16 : rtab .any (opsOf Tryd.f20 16) = text_router.T16 := by kernel_rfl
theorem text_router.bits16 : waitsOk text_router.T16.2 text_router.B16 = true := by kernel_rfl
open Go.Proofs.YtjcopneljfcfoaaDoor.Mq Go.Proofs.YtjcopneljfcfoaaDoor.Bld Go.Proofs.YtjcopneljfcfoaaDoor.Inv in
set_option maxHeartbeats 8000000 in
set_option maxRecDepth 100000 in
theorem text_router.calls (k : Nat) (a0_0 : ByteArray) (A0_1 : Option Addr) (c0_1 : Nat) (l0_1 : List S39) (A0_2 : Option Addr) (c0_2 : Nat) (l0_2 : List S48) (A0_3 : Option Addr) (c0_3 : Nat) (l0_3 : List S60) (a0_4 : Int) (r : ByteArray) (w : World) (hr0_1 : Kd.C k39 w A0_1 l0_1.length l0_1) (hc0_1 : l0_1.length ≤ c0_1) (hr0_2 : Kd.C k48 w A0_2 l0_2.length l0_2) (hc0_2 : l0_2.length ≤ c0_2) (hr0_3 : Kd.C k60 w A0_3 l0_3.length l0_3) (hc0_3 : l0_3.length ≤ c0_3) (h : text_router.f k a0_0 l0_1 l0_2 l0_3 a0_4 = some r) (hInv : Go.Proofs.YtjcopneljfcfoaaDoor.Inv.Inv w) :
  Calls Tryd.prog 20 #[.agg #[.string a0_0, .slice A0_1 l0_1.length c0_1, .slice A0_2 l0_2.length c0_2, .slice A0_3 l0_3.length c0_3, .int .i64 a0_4]] w fun e w' => e = .returned (.string r) ∧ Below w.heap.size w w' := by
 unfold text_router.f at h
 simp only [Option.bind_eq_some_iff] at h
 obtain ⟨an, hN, al, hL, ax, hS, h⟩ := h
 split at h
 ·rename_i hlim
  have hr := hide (Option.some.inj h)
  clear h
  obtain ⟨h1, e1⟩ : ∃ h1, [114, 111, 117, 116, 101, 114, 32] ++ a0_0.data.toList ++ [32, 123, 10] = h1 := ⟨_, rfl⟩
  obtain ⟨h2, e2⟩ : ∃ h2, h1 ++ an = h2 := ⟨_, rfl⟩
  obtain ⟨h3, e3⟩ : ∃ h3, h2 ++ al = h3 := ⟨_, rfl⟩
  obtain ⟨h4, e4⟩ : ∃ h4, h3 ++ ax = h4 := ⟨_, rfl⟩
  rw [e1, e2, e3, e4] at hr
  have hl4 : h4.length + 2 ≤ 140737488355328 := by
   have e : a0_0.data.toList.length = a0_0.size := Array.length_toList
   rw [← e4, ← e3, ← e2, ← e1]
   simp only [List.length_append, e]
   simp
   omega
  have hl3 : h3.length ≤ h4.length := by rw [← e4]; simp
  have hl2 : h2.length ≤ h3.length := by rw [← e3]; simp
  have hl1 : h1.length ≤ h2.length := by rw [← e2]; simp
  have hl0 : a0_0.size + 10 ≤ h1.length := by
   have e : a0_0.data.toList.length = a0_0.size := Array.length_toList
   rw [← e1]
   simp only [List.length_append, e]
   simp
   omega
  replace hl2 := hide (show h2.length ≤ 140737488355326 by omega)
  replace hl3 := hide (show h3.length ≤ 140737488355326 by omega)
  replace hl0 := hide (show a0_0.size + 10 ≤ 140737488355326 by omega)
  replace hl4 := hide hl4
  replace e1 := hide e1
  replace e2 := hide e2
  replace e3 := hide e3
  replace e4 := hide e4
  replace hN := hide hN
  replace hL := hide hL
  replace hS := hide hS
  clear hlim hl1
  replace hInv := hide hInv
  have hlen1 := hr0_1.2.1
  have hlen2 := hr0_2.2.1
  have hlen3 := hr0_3.2.1
  have z1 : (9223372036854775807 < 7 + a0_0.size) = False := eq_false (by have := hl0.out; omega)
  have z2 : (9223372036854775807 < 7 + a0_0.size + 3) = False := eq_false (by have := hl0.out; omega)
  go_enter Tryd.func20, Tryd.ntmps20
  go_upto_region 2 with (fail)
  have ea : (w.alloc (.cells #[.string a0_0, .slice A0_1 l0_1.length c0_1, .slice A0_2 l0_2.length c0_2, .slice A0_3 l0_3.length c0_3, .int .i64 a0_4] 46)).heap.size = w.heap.size + 1 := by simp
  have hI0 : IsB (w.heap.size + 1) (w.heap.size + 1) [] ((w.alloc (.cells #[.string a0_0, .slice A0_1 l0_1.length c0_1, .slice A0_2 l0_2.length c0_2, .slice A0_3 l0_3.length c0_3, .int .i64 a0_4] 46)).alloc (.cells #[.pointer none, .slice none 0 0] 63)) := by
   have := Lib.IsBuilderF.of (Lib.fresh_isBuilder 63 5 (w.alloc (.cells #[.string a0_0, .slice A0_1 l0_1.length c0_1, .slice A0_2 l0_2.length c0_2, .slice A0_3 l0_3.length c0_3, .int .i64 a0_4] 46)))
   rw [ea] at this
   exact this
  have hb0 : Below w.heap.size w ((w.alloc (.cells #[.string a0_0, .slice A0_1 l0_1.length c0_1, .slice A0_2 l0_2.length c0_2, .slice A0_3 l0_3.length c0_3, .int .i64 a0_4] 46)).alloc (.cells #[.pointer none, .slice none 0 0] 63)) := ((Below.refl _ w).alloc (Nat.le_refl _) _).alloc (by rw [ea]; omega) _
  have hg0 : ((w.alloc (.cells #[.string a0_0, .slice A0_1 l0_1.length c0_1, .slice A0_2 l0_2.length c0_2, .slice A0_3 l0_3.length c0_3, .int .i64 a0_4] 46)).alloc (.cells #[.pointer none, .slice none 0 0] 63)).heap[w.heap.size]? = some (.cells ([.string a0_0, .slice A0_1 l0_1.length c0_1, .slice A0_2 l0_2.length c0_2, .slice A0_3 l0_3.length c0_3, .int .i64 a0_4] : List Value).toArray 46 (0, 0)) := by
   rw [heap_alloc_old _ _ (by rw [ea]; omega)]
   exact heap_alloc_new w _
  have hs0 : w.heap.size + 1 < ((w.alloc (.cells #[.string a0_0, .slice A0_1 l0_1.length c0_1, .slice A0_2 l0_2.length c0_2, .slice A0_3 l0_3.length c0_3, .int .i64 a0_4] 46)).alloc (.cells #[.pointer none, .slice none 0 0] 63)).heap.size := by simp
  generalize ((w.alloc (.cells #[.string a0_0, .slice A0_1 l0_1.length c0_1, .slice A0_2 l0_2.length c0_2, .slice A0_3 l0_3.length c0_3, .int .i64 a0_4] 46)).alloc (.cells #[.pointer none, .slice none 0 0] 63)) = W0 at hI0 hb0 hg0 hs0 ⊢
  generalize hbe : w.heap.size + 1 = b at hI0 hs0 ⊢
  clear ea
  have x0 := box_cell (j := 0) hg0 rfl
  go_wp2_with (first
   | (go_at_call 19; refine (write_calls b b [] _ _ hI0 (by have := hl0.out; simp only [ByteArray.size_append]; have e1 : (⟨#[114, 111, 117, 116, 101, 114, 32]⟩ : ByteArray).size = 7 := rfl; have e2 : (⟨#[32, 123, 10]⟩ : ByteArray).size = 3 := rfl; simp only [List.length_nil]; omega) (by omega)).mono ?_; rintro e W1 ⟨rfl, hI1, hb1, hk1⟩; have hg1 : W1.heap[w.heap.size]? = some (.cells ([.string a0_0, .slice A0_1 l0_1.length c0_1, .slice A0_2 l0_2.length c0_2, .slice A0_3 l0_3.length c0_3, .int .i64 a0_4] : List Value).toArray 46 (0, 0)) := (hb1.block _ (by omega)).trans hg0; have x1 := box_cell (j := 1) hg1 rfl))
  clear x0 x1 hk1 hI0 hg0 z1 z2
  replace hb1 : Below w.heap.size w W1 := hb0.trans (hb1.mono (by omega))
  clear hb0
  replace hs0 : b < W1.heap.size := by
   have := hb1.size
   rcases hI1 with h | h
   ·obtain ⟨_, v, h2, _⟩ := h
    exact (Array.getElem?_eq_some_iff.1 h2).1
   ·obtain ⟨_, v, h2, _⟩ := h
    exact (Array.getElem?_eq_some_iff.1 h2).1
  replace hI1 : IsB b b h1 W1 := by rw [← e1.out]; simpa using hI1
  clear hl0 e1
  go_loopw [18] (fun v18 Wl => ∃ (i : Nat) (acc rest : List UInt8), i ≤ l0_1.length ∧ v18 = .int .i64 i ∧ Hid (text_router.netText k (l0_1.drop i) = some rest ∧ acc ++ rest = h2) ∧ IsB b b acc Wl ∧ Below b W1 Wl) (fun v18 _ => l0_1.length - (intOf v18).toNat)
  case atStart => exact ⟨0, h1, an, Nat.zero_le _, rfl, ⟨hN.out, e2.out⟩, hI1, Below.refl _ _⟩
  case round =>
   clear hN hI1
   obtain ⟨i, acc, rest, hi, rfl, hacc, hI, hbw⟩ := hrel
   have hbw0 : Below w.heap.size w wr := hb1.trans (hbw.mono (by omega))
   have hsr : b < wr.heap.size := Nat.lt_of_lt_of_le hs0 hbw.size
   by_cases hlt : i < l0_1.length
   ·obtain ⟨p, hp⟩ : ∃ p, l0_1[i]? = some p := ⟨_, List.getElem?_eq_getElem hlt⟩
    have hd : l0_1.drop i = p :: l0_1.drop (i + 1) := by rw [List.drop_eq_getElem_cons hlt]; congr 1; rw [List.getElem?_eq_getElem hlt] at hp; injection hp
    obtain ⟨t, u, ht, hu, hrest⟩ : ∃ t u, prefix_Text.f k p.f0 p.f1 = some t ∧ text_router.netText k (l0_1.drop (i + 1)) = some u ∧ rest = [9, 110, 101, 116, 32] ++ t.data.toList ++ [59, 10] ++ u := by
     have h1 := hacc.out.1
     rw [hd] at h1
     unfold text_router.netText at h1
     simp only [Option.bind_eq_some_iff] at h1
     obtain ⟨t, h1, u, h2, h3⟩ := h1
     exact ⟨t, u, h1, h2, (Option.some.inj h3).symm⟩
    clear hd
    have et : t.data.toList.length = t.size := Array.length_toList
    have hl : acc.length + (5 + t.size + 2) ≤ 140737488355328 := by
     have h1 := congrArg List.length hacc.out.2
     have h2 := hl2.out
     rw [hrest] at h1
     simp only [List.length_append, et] at h1
     simp at h1
     omega
    have hac2 : Hid (text_router.netText k (l0_1.drop (i + 1)) = some u ∧ (acc ++ ([9, 110, 101, 116, 32] ++ t.data.toList ++ [59, 10])) ++ u = h2) := hide ⟨hu, by rw [← hacc.out.2, hrest]; simp⟩
    replace ht := hide ht
    replace hl := hide hl
    clear hacc hrest hu rest et
    obtain ⟨ad, rfl, hrow⟩ := hr0_1.2.2 (by omega)
    obtain ⟨cs0, _, hK, hx0⟩ := hrow i p hp
    obtain rfl := k39_open hK
    have hx : Hid (∀ (j : Nat) u, ([.int .u32 p.f0, .int .i64 p.f1] : List Value)[j]? = some u → wr.cell? (ad.add (i * 2 + j)) = some u) := hide (fun j u hu => cell_below (hx0 j u hu) hbw0)
    clear hx0 hK hrow
    have z1 : (9223372036854775807 < 5 + t.size) = False := eq_false (by have := hl.out; omega)
    have z2 : (9223372036854775807 < 5 + t.size + 2) = False := eq_false (by have := hl.out; omega)
    have H := MemM.start wr
    go_wp2_with (first
     | ((with_reducible refine Go.Proofs.YtjcopneljfcfoaaDoor.Mq.gate_dst (N := 21) rfl ?_); refine wp_ldcells [.int .u32 p.f0, .int .i64 p.f1] hx.out rfl _ _ rfl rfl _ Tryd.underlying39 rfl (by kernel_rfl) ?_)
     | ((with_reducible refine Go.Proofs.YtjcopneljfcfoaaDoor.Mq.gate_dst (N := 5) rfl ?_); refine wp_alloc H rfl _ rfl _ text_router.infoNet _ rfl ?_; clear H hx; intro gx W5 H)
     | (refine wp_stbox H rfl _ _ _ rfl 0 rfl _ rfl _ rfl (by kernel_rfl) rfl (Nat.le_of_ble_eq_true rfl) [.int .u32 p.f0, .int .i64 p.f1] rfl ?_; clear H; intro W6 H)
     | ((with_reducible refine Go.Proofs.YtjcopneljfcfoaaDoor.Mq.gate_dst (N := 22) rfl ?_); refine wp_ldbox (.head _) H rfl _ _ rfl 0 2 rfl _ Tryd.underlying39 rfl [.int .u32 p.f0, .int .i64 p.f1] rfl (by kernel_rfl) ?_)
     | (go_at_call 23; refine (prefix_Text.calls k p.f0 p.f1 t _ ht.out (hInv.out.below (hbw0.trans (H.below.mono hbw0.size)))).mono ?_; rintro e W7 ⟨rfl, hb7⟩)
     | (go_at_call 19; refine (write_calls b b acc _ _ ((hI.below H.below).below hb7) (by have := hl.out; simp only [ByteArray.size_append]; have e1 : (⟨#[9, 110, 101, 116, 32]⟩ : ByteArray).size = 5 := rfl; have e2 : (⟨#[59, 10]⟩ : ByteArray).size = 2 := rfl; omega) (by have := H.below.size; have := hb7.size; omega)).mono ?_; rintro e W8 ⟨rfl, hI8, hb8, hk8⟩))
    go_roundw
    case rel => exact ⟨i + 1, acc ++ ([9, 110, 101, 116, 32] ++ t.data.toList ++ [59, 10]), u, by omega, by go_num, hac2, by simpa using hI8, hbw.trans (((H.below.mono (Nat.le_of_lt hsr)).trans (hb7.mono (by have := H.below.size; omega))).trans hb8)⟩
    case measure => simp [intOf]; omega
   ·obtain rfl : i = l0_1.length := by omega
    obtain rfl : rest = [] := by
     have h1 := hacc.out.1
     rw [List.drop_length] at h1
     exact (Option.some.inj h1).symm
    obtain rfl : h2 = acc := by
     have h1 := hacc.out.2
     rw [List.append_nil] at h1
     exact h1.symm
    clear hacc hlt
    have hg2 : wr.heap[w.heap.size]? = some (.cells ([.string a0_0, .slice A0_1 l0_1.length c0_1, .slice A0_2 l0_2.length c0_2, .slice A0_3 l0_3.length c0_3, .int .i64 a0_4] : List Value).toArray 46 (0, 0)) := by
     rw [hbw.block _ (by omega)]
     exact hg1
    have x2 := box_cell (j := 2) hg2 rfl
    have hb2 := hbw0
    have hs1 := hsr
    clear hbw hbw0 hsr
    go_wp2_with fail
    clear x2
    go_loopw [31] (fun v31 Wl => ∃ (i : Nat) (acc rest : List UInt8), i ≤ l0_2.length ∧ v31 = .int .i64 i ∧ Hid (text_router.linkText (l0_2.drop i) = some rest ∧ acc ++ rest = h3) ∧ IsB b b acc Wl ∧ Below b wr Wl) (fun v31 _ => l0_2.length - (intOf v31).toNat)
    case atStart => exact ⟨0, h2, al, Nat.zero_le _, rfl, ⟨hL.out, e3.out⟩, hI, Below.refl _ _⟩
    case round =>
     clear hL hI
     obtain ⟨i, acc, rest, hi, rfl, hacc, hI, hbw⟩ := hrel
     have hbw0 : Below w.heap.size w wr := hb2.trans (hbw.mono (by omega))
     have hsr : b < wr.heap.size := Nat.lt_of_lt_of_le hs1 hbw.size
     by_cases hlt : i < l0_2.length
     ·obtain ⟨q, hq⟩ : ∃ q, l0_2[i]? = some q := ⟨_, List.getElem?_eq_getElem hlt⟩
      have hd : l0_2.drop i = q :: l0_2.drop (i + 1) := by rw [List.drop_eq_getElem_cons hlt]; congr 1; rw [List.getElem?_eq_getElem hlt] at hq; injection hq
      obtain ⟨t, x, y, u, ht, hx1, hy1, hu, hrest⟩ : ∃ t x y u, strconv_Itoa.f q.f1 = some t ∧ text_name.f (⟨#[105, 109, 112, 111, 114, 116]⟩ : ByteArray) q.f2 = some x ∧ text_name.f (⟨#[101, 120, 112, 111, 114, 116]⟩ : ByteArray) q.f3 = some y ∧ text_router.linkText (l0_2.drop (i + 1)) = some u ∧ rest = [9, 108, 105, 110, 107, 32] ++ q.f0.data.toList ++ [32, 99, 111, 115, 116, 32] ++ t.data.toList ++ x.data.toList ++ y.data.toList ++ [59, 10] ++ u := by
       have h1 := hacc.out.1
       rw [hd] at h1
       unfold text_router.linkText at h1
       simp only [Option.bind_eq_some_iff] at h1
       obtain ⟨t, h1, x, h2, y, h3, u, h4, h5⟩ := h1
       exact ⟨t, x, y, u, h1, h2, h3, h4, (Option.some.inj h5).symm⟩
      clear hd
      have et : t.data.toList.length = t.size := Array.length_toList
      have ex : x.data.toList.length = x.size := Array.length_toList
      have ey : y.data.toList.length = y.size := Array.length_toList
      have eq : q.f0.data.toList.length = q.f0.size := Array.length_toList
      have hl : acc.length + (6 + q.f0.size + 6 + t.size + x.size + y.size + 2) ≤ 140737488355328 := by
       have h1 := congrArg List.length hacc.out.2
       have h2 := hl3.out
       rw [hrest] at h1
       simp only [List.length_append, et, ex, ey, eq] at h1
       simp at h1
       omega
      have hac2 : Hid (text_router.linkText (l0_2.drop (i + 1)) = some u ∧ (acc ++ ([9, 108, 105, 110, 107, 32] ++ q.f0.data.toList ++ [32, 99, 111, 115, 116, 32] ++ t.data.toList ++ x.data.toList ++ y.data.toList ++ [59, 10])) ++ u = h3) := hide ⟨hu, by rw [← hacc.out.2, hrest]; simp⟩
      replace ht := hide ht
      replace hx1 := hide hx1
      replace hy1 := hide hy1
      replace hl := hide hl
      clear hacc hrest hu rest et ex ey eq
      obtain ⟨ad, rfl, hrow⟩ := hr0_2.2.2 (by omega)
      obtain ⟨cs0, _, hK, hx0⟩ := hrow i q hq
      obtain rfl := k48_open hK
      have hx : Hid (∀ (j : Nat) u, ([.string q.f0, .int .i64 q.f1, .string q.f2, .string q.f3, .int .i64 q.f4] : List Value)[j]? = some u → wr.cell? (ad.add (i * 5 + j)) = some u) := hide (fun j u hu => cell_below (hx0 j u hu) hbw0)
      clear hx0 hK hrow
      have z1 : (9223372036854775807 < 6 + q.f0.size) = False := eq_false (by have := hl.out; omega)
      have z2 : (9223372036854775807 < 6 + q.f0.size + 6) = False := eq_false (by have := hl.out; omega)
      have z3 : (9223372036854775807 < 6 + q.f0.size + 6 + t.size) = False := eq_false (by have := hl.out; omega)
      have z4 : (9223372036854775807 < 6 + q.f0.size + 6 + t.size + x.size) = False := eq_false (by have := hl.out; omega)
      have z5 : (9223372036854775807 < 6 + q.f0.size + 6 + t.size + x.size + y.size) = False := eq_false (by have := hl.out; omega)
      have z6 : (9223372036854775807 < 6 + q.f0.size + 6 + t.size + x.size + y.size + 2) = False := eq_false (by have := hl.out; omega)
      have H := MemM.start wr
      go_upto_region 11 with (first
       | ((with_reducible refine Go.Proofs.YtjcopneljfcfoaaDoor.Mq.gate_dst (N := 34) rfl ?_); refine wp_ldcells [.string q.f0, .int .i64 q.f1, .string q.f2, .string q.f3, .int .i64 q.f4] hx.out rfl _ _ rfl rfl _ Tryd.underlying48 rfl (by kernel_rfl) ?_)
       | ((with_reducible refine Go.Proofs.YtjcopneljfcfoaaDoor.Mq.gate_dst (N := 7) rfl ?_); refine wp_alloc H rfl _ rfl _ text_router.infoLink _ rfl ?_; clear H hx; intro gx W5 H)
       | (refine wp_stbox H rfl _ _ _ rfl 0 rfl _ rfl _ rfl (by kernel_rfl) rfl (Nat.le_of_ble_eq_true rfl) [.string q.f0, .int .i64 q.f1, .string q.f2, .string q.f3, .int .i64 q.f4] rfl ?_; clear H; intro W6 H))
      have hg6 := (box_at H).1
      have hb6 : Below wr.heap.size wr W6 := H.below
      have hI6 := hI.below H.below
      have hsz6 := H.below.size
      clear H
      replace hg6 : W6.drew.heap[gx]? = some (.cells ([.string q.f0, .int .i64 q.f1, .string q.f2, .string q.f3, .int .i64 q.f4] : List Value).toArray 48 (0, 0)) := blk_drew hg6
      have hdr : Below W6.heap.size W6 W6.drew := below_drew1 (Below.refl _ _)
      replace hI6 := hI6.below hdr
      replace hb6 : Below wr.heap.size wr W6.drew := hb6.trans (hdr.mono hsz6)
      clear hdr hsz6
      refine start_ (n := 18) (S := fun w' => CE4 w' gx (.string q.f0) (.int .i64 q.f1) (.string q.f2) (.string q.f3)) (ds := [17]) #[false, false, false, false, false, false, false, false, false, false, false, false, false, false, false, false, false, false] (by kernel_rfl) rfl rfl ⟨box_cell (j := 0) hg6 rfl, box_cell (j := 1) hg6 rfl, box_cell (j := 2) hg6 rfl, box_cell (j := 3) hg6 rfl⟩ (fun hHeld => ?_); refine with_tabW text_router.tab11 text_router.bits11 (fun HT_ HW_ => ?_)
      generalize W6.drew = W7 at hg6 hI6 hb6 hHeld ⊢
      refine pu HT_ 0 (some 35) (mk 18 1) ?_
      refine tk HT_ HW_ 1 (some 36) (mk 18 3) hHeld ?_
      refine pu HT_ 2 (some 37) (mk 18 7) ?_
      refine pu HT_ 3 (some 38) (mk 18 15) ?_
      refine pu HT_ 4 (some 39) (mk 18 31) ?_
      refine tk HT_ HW_ 5 (some 40) (mk 18 63) hHeld ?_
      refine pu HT_ 8 (some 43) (mk 18 319) ?_
      refine tk HT_ HW_ 9 (some 44) (mk 18 831) hHeld ?_
      refine pu HT_ 12 (some 47) (mk 18 4927) ?_
      refine tk HT_ HW_ 13 (some 48) (mk 18 13119) hHeld ?_
      refine on HT_ 6 (some 41) (mk 18 13183) fun K hK => ?_
      refine go1 Tryd.func29 #[.int .i64 q.f1] ?_
      with_reducible refine (strconv_Itoa.calls q.f1 t _ ht.out (hInv.out.below (hbw0.trans (hb6.mono hbw0.size)))).mono ?_
      rintro e W8 ⟨rfl, hb8⟩
      refine ⟨_, rfl, ?_⟩
      have hg8 := (hb8.block _ (Array.getElem?_eq_some_iff.1 hg6).1).trans hg6
      have hI8 := hI6.below hb8
      refine hK.out _ _ ⟨box_cell (j := 0) hg8 rfl, box_cell (j := 1) hg8 rfl, box_cell (j := 2) hg8 rfl, box_cell (j := 3) hg8 rfl⟩ (fun hHeld => ?_)
      clear hK K
      refine nm (some 41) ?_
      refine pu HT_ 7 (some 42) (mk 18 13311) ?_
      refine on HT_ 10 (some 45) (mk 18 14335) fun K hK => ?_
      refine go1 Tryd.func30 #[.string ⟨#[105, 109, 112, 111, 114, 116]⟩, .string q.f2] ?_
      with_reducible refine (text_name.calls _ _ x _ hx1.out).mono ?_
      rintro e W9 ⟨rfl, hb9⟩
      replace hb9 := hb9.below
      refine ⟨_, rfl, ?_⟩
      have hg9 := (hb9.block _ (Array.getElem?_eq_some_iff.1 hg8).1).trans hg8
      have hI9 := hI8.below hb9
      refine hK.out _ _ ⟨box_cell (j := 0) hg9 rfl, box_cell (j := 1) hg9 rfl, box_cell (j := 2) hg9 rfl, box_cell (j := 3) hg9 rfl⟩ (fun hHeld => ?_)
      clear hK K
      refine nm (some 45) ?_
      refine pu HT_ 11 (some 46) (mk 18 16383) ?_
      refine on HT_ 14 (some 49) (mk 18 32767) fun K hK => ?_
      refine go1 Tryd.func30 #[.string ⟨#[101, 120, 112, 111, 114, 116]⟩, .string q.f3] ?_
      with_reducible refine (text_name.calls _ _ y _ hy1.out).mono ?_
      rintro e W10 ⟨rfl, hb10⟩
      replace hb10 := hb10.below
      refine ⟨_, rfl, ?_⟩
      have hg10 := (hb10.block _ (Array.getElem?_eq_some_iff.1 hg9).1).trans hg9
      have hI10 := hI9.below hb10
      refine hK.out _ _ ⟨box_cell (j := 0) hg10 rfl, box_cell (j := 1) hg10 rfl, box_cell (j := 2) hg10 rfl, box_cell (j := 3) hg10 rfl⟩ (fun hHeld => ?_)
      clear hK K
      refine nm (some 49) ?_
      refine pu HT_ 15 (some 50) (mk 18 65535) ?_
      refine pu HT_ 16 (some 51) (mk 18 131071) ?_
      refine la HT_ 17 (some 52) (mk 18 262143) fun K hK => ?_
      have hbr : Below wr.heap.size wr W10 := ((hb6.trans (hb8.mono hb6.size)).trans (hb9.mono (hb6.trans (hb8.mono hb6.size)).size)).trans (hb10.mono ((hb6.trans (hb8.mono hb6.size)).trans (hb9.mono (hb6.trans (hb8.mono hb6.size)).size)).size)
      refine go1 Tryd.func19 #[.pointer (some ⟨b, 0, none⟩), .string ((⟨#[9, 108, 105, 110, 107, 32]⟩ : ByteArray) ++ q.f0 ++ ⟨#[32, 99, 111, 115, 116, 32]⟩ ++ t ++ x ++ y ++ ⟨#[59, 10]⟩)] ?_
      refine (write_calls b b acc _ _ hI10 (by have := hl.out; simp only [ByteArray.size_append]; have e1 : (⟨#[9, 108, 105, 110, 107, 32]⟩ : ByteArray).size = 6 := rfl; have e2 : (⟨#[32, 99, 111, 115, 116, 32]⟩ : ByteArray).size = 6 := rfl; have e3 : (⟨#[59, 10]⟩ : ByteArray).size = 2 := rfl; omega) (by have := hbr.size; omega)).mono ?_
      rintro e W11 ⟨rfl, hI11, hb11, _⟩
      refine ⟨_, rfl, ?_⟩
      refine hK.out _ _ ?_
      clear hK K
      refine nm (some 52) ?_
      refine done_ (done_of HT_.out (by kernel_rfl)) ?_
      try go_wp2
      go_roundw
      case rel => exact ⟨i + 1, acc ++ ([9, 108, 105, 110, 107, 32] ++ q.f0.data.toList ++ [32, 99, 111, 115, 116, 32] ++ t.data.toList ++ x.data.toList ++ y.data.toList ++ [59, 10]), u, by omega, by go_num, hac2, by simpa using hI11, hbw.trans ((hbr.mono (Nat.le_of_lt hsr)).trans hb11)⟩
      case measure => simp [intOf]; omega
     ·obtain rfl : i = l0_2.length := by omega
      obtain rfl : rest = [] := by
       have h1 := hacc.out.1
       rw [List.drop_length] at h1
       exact (Option.some.inj h1).symm
      obtain rfl : h3 = acc := by
       have h1 := hacc.out.2
       rw [List.append_nil] at h1
       exact h1.symm
      clear hacc hlt
      have hg3 : wr.heap[w.heap.size]? = some (.cells ([.string a0_0, .slice A0_1 l0_1.length c0_1, .slice A0_2 l0_2.length c0_2, .slice A0_3 l0_3.length c0_3, .int .i64 a0_4] : List Value).toArray 46 (0, 0)) := by
       rw [hbw.block _ (by omega)]
       exact hg2
      have x3 := box_cell (j := 3) hg3 rfl
      have hb3 := hbw0
      have hs2 := hsr
      clear hbw hbw0 hsr
      go_wp2_with fail
      clear x3
      go_loopw [57] (fun v57 Wl => ∃ (i : Nat) (acc rest : List UInt8), i ≤ l0_3.length ∧ v57 = .int .i64 i ∧ Hid (text_router.statText k (l0_3.drop i) = some rest ∧ acc ++ rest = h4) ∧ IsB b b acc Wl ∧ Below b wr Wl) (fun v57 _ => l0_3.length - (intOf v57).toNat)
      case atStart => exact ⟨0, h3, ax, Nat.zero_le _, rfl, ⟨hS.out, e4.out⟩, hI, Below.refl _ _⟩
      case round =>
       clear hS hI
       obtain ⟨i, acc, rest, hi, rfl, hacc, hI, hbw⟩ := hrel
       have hbw0 : Below w.heap.size w wr := hb3.trans (hbw.mono (by omega))
       have hsr : b < wr.heap.size := Nat.lt_of_lt_of_le hs2 hbw.size
       by_cases hlt : i < l0_3.length
       ·obtain ⟨q, hq⟩ : ∃ q, l0_3[i]? = some q := ⟨_, List.getElem?_eq_getElem hlt⟩
        have hd : l0_3.drop i = q :: l0_3.drop (i + 1) := by rw [List.drop_eq_getElem_cons hlt]; congr 1; rw [List.getElem?_eq_getElem hlt] at hq; injection hq
        obtain ⟨t, u, ht, hu, hrest⟩ : ∃ t u, prefix_Text.f k q.f0.f0 q.f0.f1 = some t ∧ text_router.statText k (l0_3.drop (i + 1)) = some u ∧ rest = [9, 115, 116, 97, 116, 105, 99, 32] ++ t.data.toList ++ [32, 118, 105, 97, 32] ++ q.f1.data.toList ++ [59, 10] ++ u := by
         have h1 := hacc.out.1
         rw [hd] at h1
         unfold text_router.statText at h1
         simp only [Option.bind_eq_some_iff] at h1
         obtain ⟨t, h1, u, h2, h3⟩ := h1
         exact ⟨t, u, h1, h2, (Option.some.inj h3).symm⟩
        clear hd
        have et : t.data.toList.length = t.size := Array.length_toList
        have eq : q.f1.data.toList.length = q.f1.size := Array.length_toList
        have hl : acc.length + (8 + t.size + 5 + q.f1.size + 2) ≤ 140737488355328 := by
         have h1 := congrArg List.length hacc.out.2
         have h2 := hl4.out
         rw [hrest] at h1
         simp only [List.length_append, et, eq] at h1
         simp at h1
         omega
        have hac2 : Hid (text_router.statText k (l0_3.drop (i + 1)) = some u ∧ (acc ++ ([9, 115, 116, 97, 116, 105, 99, 32] ++ t.data.toList ++ [32, 118, 105, 97, 32] ++ q.f1.data.toList ++ [59, 10])) ++ u = h4) := hide ⟨hu, by rw [← hacc.out.2, hrest]; simp⟩
        replace ht := hide ht
        replace hl := hide hl
        clear hacc hrest hu rest et eq
        obtain ⟨ad, rfl, hrow⟩ := hr0_3.2.2 (by omega)
        obtain ⟨cs0, _, hK, hx0⟩ := hrow i q hq
        obtain rfl := k60_open hK
        have hx : Hid (∀ (j : Nat) u, ([.int .u32 q.f0.f0, .int .i64 q.f0.f1, .string q.f1, .int .i64 q.f2] : List Value)[j]? = some u → wr.cell? (ad.add (i * 4 + j)) = some u) := hide (fun j u hu => cell_below (hx0 j u hu) hbw0)
        clear hx0 hK hrow
        have z1 : (9223372036854775807 < 8 + t.size) = False := eq_false (by have := hl.out; omega)
        have z2 : (9223372036854775807 < 8 + t.size + 5) = False := eq_false (by have := hl.out; omega)
        have z3 : (9223372036854775807 < 8 + t.size + 5 + q.f1.size) = False := eq_false (by have := hl.out; omega)
        have z4 : (9223372036854775807 < 8 + t.size + 5 + q.f1.size + 2) = False := eq_false (by have := hl.out; omega)
        have H := MemM.start wr
        go_upto_region 16 with (first
         | ((with_reducible refine Go.Proofs.YtjcopneljfcfoaaDoor.Mq.gate_dst (N := 60) rfl ?_); refine wp_ldcells [.int .u32 q.f0.f0, .int .i64 q.f0.f1, .string q.f1, .int .i64 q.f2] hx.out rfl _ _ rfl rfl _ Tryd.underlying60 rfl (by kernel_rfl) ?_)
         | ((with_reducible refine Go.Proofs.YtjcopneljfcfoaaDoor.Mq.gate_dst (N := 9) rfl ?_); refine wp_alloc H rfl _ rfl _ text_router.infoStat _ rfl ?_; clear H hx; intro gx W5 H)
         | (refine wp_stbox H rfl _ _ _ rfl 0 rfl _ rfl _ rfl (by kernel_rfl) rfl (Nat.le_of_ble_eq_true rfl) [.int .u32 q.f0.f0, .int .i64 q.f0.f1, .string q.f1, .int .i64 q.f2] rfl ?_; clear H; intro W6 H))
        have hg6 := (box_at H).1
        have hb6 : Below wr.heap.size wr W6 := H.below
        have hI6 := hI.below H.below
        have hsz6 := H.below.size
        clear H
        replace hg6 : W6.drew.heap[gx]? = some (.cells ([.int .u32 q.f0.f0, .int .i64 q.f0.f1, .string q.f1, .int .i64 q.f2] : List Value).toArray 60 (0, 0)) := blk_drew hg6
        have hdr : Below W6.heap.size W6 W6.drew := below_drew1 (Below.refl _ _)
        replace hI6 := hI6.below hdr
        replace hb6 : Below wr.heap.size wr W6.drew := hb6.trans (hdr.mono hsz6)
        clear hdr hsz6
        refine start_ (n := 10) (S := fun w' => CE3 w' gx (.int .u32 q.f0.f0) (.int .i64 q.f0.f1) (.string q.f1)) (ds := [9]) #[false, false, false, false, false, false, false, false, false, false] (by kernel_rfl) rfl rfl ⟨box_cell (j := 0) hg6 rfl, box_cell (j := 1) hg6 rfl, box_cell (j := 2) hg6 rfl⟩ (fun hHeld => ?_); refine with_tabW text_router.tab16 text_router.bits16 (fun HT_ HW_ => ?_)
        generalize W6.drew = W7 at hg6 hI6 hb6 hHeld ⊢
        refine pu HT_ 0 (some 61) (mk 10 1) ?_
        refine tk HT_ HW_ 1 (some 62) (mk 10 3) hHeld ?_
        refine pu HT_ 5 (some 66) (mk 10 35) ?_
        refine tk HT_ HW_ 6 (some 67) (mk 10 99) hHeld ?_
        refine on HT_ 2 (some 63) (mk 10 103) fun K hK => ?_
        refine go1 Tryd.func23 #[.agg #[.int .u32 q.f0.f0, .int .i64 q.f0.f1]] ?_
        with_reducible refine (prefix_Text.calls k q.f0.f0 q.f0.f1 t _ ht.out (hInv.out.below (hbw0.trans (hb6.mono hbw0.size)))).mono ?_
        rintro e W8 ⟨rfl, hb8⟩
        refine ⟨_, rfl, ?_⟩
        have hg8 := (hb8.block _ (Array.getElem?_eq_some_iff.1 hg6).1).trans hg6
        have hI8 := hI6.below hb8
        refine hK.out _ _ ⟨box_cell (j := 0) hg8 rfl, box_cell (j := 1) hg8 rfl, box_cell (j := 2) hg8 rfl⟩ (fun hHeld => ?_)
        clear hK K
        refine nm (some 63) ?_
        refine pu HT_ 3 (some 64) (mk 10 111) ?_
        refine pu HT_ 4 (some 65) (mk 10 127) ?_
        refine pu HT_ 7 (some 68) (mk 10 255) ?_
        refine pu HT_ 8 (some 69) (mk 10 511) ?_
        refine la HT_ 9 (some 70) (mk 10 1023) fun K hK => ?_
        have hbr : Below wr.heap.size wr W8 := hb6.trans (hb8.mono hb6.size)
        refine go1 Tryd.func19 #[.pointer (some ⟨b, 0, none⟩), .string ((⟨#[9, 115, 116, 97, 116, 105, 99, 32]⟩ : ByteArray) ++ t ++ ⟨#[32, 118, 105, 97, 32]⟩ ++ q.f1 ++ ⟨#[59, 10]⟩)] ?_
        refine (write_calls b b acc _ _ hI8 (by have := hl.out; simp only [ByteArray.size_append]; have e1 : (⟨#[9, 115, 116, 97, 116, 105, 99, 32]⟩ : ByteArray).size = 8 := rfl; have e2 : (⟨#[32, 118, 105, 97, 32]⟩ : ByteArray).size = 5 := rfl; have e3 : (⟨#[59, 10]⟩ : ByteArray).size = 2 := rfl; omega) (by have := hbr.size; omega)).mono ?_
        rintro e W11 ⟨rfl, hI11, hb11, _⟩
        refine ⟨_, rfl, ?_⟩
        refine hK.out _ _ ?_
        clear hK K
        refine nm (some 70) ?_
        refine done_ (done_of HT_.out (by kernel_rfl)) ?_
        try go_wp2
        go_roundw
        case rel => exact ⟨i + 1, acc ++ ([9, 115, 116, 97, 116, 105, 99, 32] ++ t.data.toList ++ [32, 118, 105, 97, 32] ++ q.f1.data.toList ++ [59, 10]), u, by omega, by go_num, hac2, by simpa using hI11, hbw.trans ((hbr.mono (Nat.le_of_lt hsr)).trans hb11)⟩
        case measure => simp [intOf]; omega
       ·obtain rfl : i = l0_3.length := by omega
        obtain rfl : rest = [] := by
         have h1 := hacc.out.1
         rw [List.drop_length] at h1
         exact (Option.some.inj h1).symm
        obtain rfl : h4 = acc := by
         have h1 := hacc.out.2
         rw [List.append_nil] at h1
         exact h1.symm
        clear hacc hlt
        obtain ⟨s, hs⟩ : ∃ s : ByteArray, (⟨h4.toArray⟩ : ByteArray) = s := ⟨_, rfl⟩
        have hss : s.size = h4.length := by rw [← hs]; show Array.size _ = _; simp
        have z1 : (9223372036854775807 < s.size + 2) = False := eq_false (by have := hl4.out; omega)
        clear hss
        have hfin : Hid (s ++ ⟨#[125, 10]⟩ = r) := hide (by
         have ext : ∀ x y : ByteArray, x.data = y.data → x = y := fun x y h => by cases x; cases y; simpa using h
         rw [← hs, ← hr.out]
         apply ext
         simp)
        go_wp2_with (first
         | (go_at_call 21; refine (string_calls b b h4 _ hI (by omega)).mono ?_; rw [hs]; rintro e W9 ⟨rfl, hb9⟩))
        go_ret
        exact ⟨by rw [hfin.out]; rfl, hbw0.trans (hb9.mono (by omega))⟩
 ·cases h

end Go.Proofs.YtjcopneljfcfoaaDoor.PRaw
