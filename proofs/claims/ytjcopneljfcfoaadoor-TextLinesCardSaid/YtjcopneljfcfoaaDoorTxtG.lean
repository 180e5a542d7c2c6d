/- Plain law: a configuration's text, as text tells it, is what the law tells: for all whose numbers fit, and that are not too large. -/
import Derived.Test.YtjcopneljfcfoaaDoorTxtC
import Derived.Test.YtjcopneljfcfoaaDoorPRawx11
import Derived.Test.YtjcopneljfcfoaaDoorPRawx17
namespace Go.Proofs.YtjcopneljfcfoaaDoor.TxtP
open Go.RowKit Go.Proofs.YtjcopneljfcfoaaDoor.PRaw Go.Proofs.YtjcopneljfcfoaaDoorW.PrintWords Go.Proofs.YtjcopneljfcfoaaDoorW.PrintLast Go.Proofs.YtjcopneljfcfoaaDoorW.PrintMore
set_option linter.unusedVariables false
set_option linter.unusedSimpArgs false
abbrev SP := S39
abbrev SL := S48
abbrev SS := S60
abbrev SR := S46
abbrev SC := S41
abbrev SM := S36
theorem leO_up {α : Type} {F : Nat → Option α} (h : ∀ k, LeO (F k) (F (k + 1))) {k k' : Nat} (hk : k ≤ k') {r : α} (e : F k = some r) : F k' = some r := by
  induction hk with
  | refl => exact e
  | step _ ih => exact h _ _ ih
theorem bsz (u : List UInt8) : (⟨u.toArray⟩ : ByteArray).size = u.length := by show Array.size _ = _; simp
theorem lsz (a : ByteArray) : a.data.toList.length = a.size := Array.length_toList
/-! ### what fits -/
def okP (p : SP) : Prop := -9223372036854775808 ≤ p.f1 ∧ p.f1 < 9223372036854775808
def okL (l : SL) : Prop := -999999 ≤ l.f1 ∧ l.f1 < 9223372036854775808
def okC (c : SC) : Prop := okP c.f1 ∧ (0 ≤ c.f2 ∧ c.f2 ≤ 255) ∧ (0 ≤ c.f3 ∧ c.f3 ≤ 255) ∧ (0 ≤ c.f5 ∧ c.f5 ≤ 255) ∧ (0 ≤ c.f6 ∧ c.f6 ≤ 255) ∧ (-999999 ≤ c.f7 ∧ c.f7 < 9223372036854775808) ∧ (-999999 ≤ c.f8 ∧ c.f8 < 9223372036854775808)
def okM (m : SM) : Prop := ∀ c ∈ m.f1, okC c
def okR (r : SR) : Prop := (∀ p ∈ r.f1, okP p) ∧ (∀ l ∈ r.f2, okL l) ∧ (∀ s ∈ r.f3, okP s.f0)
def wL : List SL → Nat
  | [] => 0
  | l :: r => l.f0.size + l.f2.size + l.f3.size + 100 + wL r
def wS : List SS → Nat
  | [] => 0
  | s :: r => s.f1.size + 300 + wS r
def wR : List SR → Nat
  | [] => 0
  | r :: l => (r.f0.size + 20 + 300 * r.f1.length + wL r.f2 + wS r.f3) + wR l
def wM : List SM → Nat
  | [] => 0
  | m :: l => (m.f0.size + 20 + 600 * m.f1.length) + wM l
/-! ### the pieces -/
theorem ptext (p : SP) (h : okP p) : ∃ t, (∀ k, 10 ≤ k → prefix_Text.f k p.f0 p.f1 = some t) ∧ t.size ≤ 200 := by
  rcases text_ok p.f0 p.f1 h.1 h.2 (k := 10) (Nat.le_refl _) with h1 | ⟨t, h1, h2⟩
  · exact absurd h1 (may_some _ _)
  · exact ⟨t, fun k hk => leO_up (fun k => prefix_Text.mono _ _ k) hk h1, h2⟩
theorem ctext (c : SC) (h : okC c) : ∃ t, (∀ k, 40 ≤ k → text_Clause.f k c.f0 c.f1.f0 c.f1.f1 c.f2 c.f3 c.f4 c.f5 c.f6 c.f7 c.f8 = some t) ∧ (∀ k, 40 ≤ k → maquettelaw07_line.f k c.f0 c.f1.f0 c.f1.f1 c.f2 c.f3 c.f4 c.f5 c.f6 c.f7 c.f8 = some t) ∧ t.size ≤ 600 := by
  obtain ⟨h1, h2, h3, h4, h5, h6, h7⟩ := h
  obtain ⟨t, e1, e2, e3⟩ := clause_eq c.f0 c.f1.f0 c.f1.f1 c.f2 c.f3 c.f4 c.f5 c.f6 c.f7 c.f8 h1.1 h1.2 h2.1 h2.2 h3.1 h3.2 h4.1 h4.2 h5.1 h5.2 h6.1 h6.2 h7.1 h7.2 (k := 40) (Nat.le_refl _)
  exact ⟨t, fun k hk => leO_up (fun k => text_Clause.mono _ _ _ _ _ _ _ _ _ _ k) hk e1, fun k hk => leO_up (fun k => maquettelaw07_line.mono _ _ _ _ _ _ _ _ _ _ k) hk e2, e3⟩
theorem name_eq (w n : ByteArray) (hw : w.size ≤ 1000) (hn : n.size ≤ 1000000000000000) : ∃ t, text_name.f w n = some t ∧ t.size ≤ w.size + n.size + 2 ∧ (n.toList = [] → t = ⟨#[]⟩) ∧ (n.toList ≠ [] → t = ⟨#[32]⟩ ++ w ++ ⟨#[32]⟩ ++ n) := by
  unfold text_name.f
  by_cases h : n.toList = []
  · rw [if_pos h]
    exact ⟨_, rfl, by show 0 ≤ _; omega, fun _ => rfl, fun h' => absurd h h'⟩
  · rw [if_neg h, if_pos (by omega), if_pos (by rw [size_app, one32]; omega), if_pos (by rw [size_app, size_app, one32]; omega)]
    exact ⟨_, rfl, by rw [size_app, size_app, size_app, one32]; omega, fun h' => absurd h' h, fun _ => rfl⟩
theorem net_ok : ∀ l : List SP, (∀ p ∈ l, okP p) → ∃ u, (∀ k, 10 ≤ k → text_router.netText k l = some u) ∧ u.length ≤ 300 * l.length
  | [], _ => ⟨[], fun _ _ => rfl, by simp⟩
  | p :: l, h => by
    obtain ⟨t, h1, h2⟩ := ptext p (h p (.head _))
    obtain ⟨u, h3, h4⟩ := net_ok l (fun q hq => h q (.tail _ hq))
    refine ⟨_, fun k hk => by rw [text_router.netText, h1 k hk, Option.bind_some, h3 k hk, Option.bind_some], ?_⟩
    simp only [List.length_append, lsz, List.length_cons, List.length_nil]
    omega
theorem link_ok : ∀ l : List SL, (∀ p ∈ l, okL p) → wL l ≤ 100000000000000 → ∃ u, text_router.linkText l = some u ∧ u.length ≤ wL l
  | [], _, _ => ⟨[], rfl, by simp⟩
  | p :: l, h, hw => by
    simp only [wL] at hw ⊢
    obtain ⟨h1, h2⟩ := h p (.head _)
    obtain ⟨t, h3, h4⟩ := itoa_i (n := p.f1) (by omega) h2
    obtain ⟨a, a1, a2, -, -⟩ := name_eq (⟨#[105, 109, 112, 111, 114, 116]⟩ : ByteArray) p.f2 (by decide) (by omega)
    obtain ⟨b, b1, b2, -, -⟩ := name_eq (⟨#[101, 120, 112, 111, 114, 116]⟩ : ByteArray) p.f3 (by decide) (by omega)
    obtain ⟨u, h5, h6⟩ := link_ok l (fun q hq => h q (.tail _ hq)) (by omega)
    refine ⟨_, by rw [text_router.linkText, h3, Option.bind_some, a1, Option.bind_some, b1, Option.bind_some, h5, Option.bind_some], ?_⟩
    have z1 : (⟨#[105, 109, 112, 111, 114, 116]⟩ : ByteArray).size = 6 := rfl
    have z2 : (⟨#[101, 120, 112, 111, 114, 116]⟩ : ByteArray).size = 6 := rfl
    simp only [List.length_append, lsz, List.length_cons, List.length_nil]
    omega
theorem stat_ok : ∀ l : List SS, (∀ p ∈ l, okP p.f0) → ∃ u, (∀ k, 10 ≤ k → text_router.statText k l = some u) ∧ u.length ≤ wS l
  | [], _ => ⟨[], fun _ _ => rfl, by simp⟩
  | p :: l, h => by
    obtain ⟨t, h1, h2⟩ := ptext p.f0 (h p (.head _))
    obtain ⟨u, h3, h4⟩ := stat_ok l (fun q hq => h q (.tail _ hq))
    refine ⟨_, fun k hk => by rw [text_router.statText, h1 k hk, Option.bind_some, h3 k hk, Option.bind_some], ?_⟩
    simp only [wS, List.length_append, lsz, List.length_cons, List.length_nil]
    omega
theorem cl_ok : ∀ l : List SC, (∀ p ∈ l, okC p) → ∃ u, (∀ k, 40 ≤ k → text_Config.clText k l = some u) ∧ u.length ≤ 600 * l.length
  | [], _ => ⟨[], fun _ _ => rfl, by simp⟩
  | p :: l, h => by
    obtain ⟨t, h1, -, h2⟩ := ctext p (h p (.head _))
    obtain ⟨u, h3, h4⟩ := cl_ok l (fun q hq => h q (.tail _ hq))
    refine ⟨_, fun k hk => by rw [text_Config.clText, h1 k hk, Option.bind_some, h3 k hk, Option.bind_some], ?_⟩
    simp only [List.length_append, lsz, List.length_cons, List.length_nil]
    omega
theorem mp_ok : ∀ l : List SM, (∀ m ∈ l, okM m) → ∃ u, (∀ k, 40 ≤ k → text_Config.mpText k l = some u) ∧ u.length ≤ wM l
  | [], _ => ⟨[], fun _ _ => rfl, by simp⟩
  | p :: l, h => by
    obtain ⟨t, h1, h2⟩ := cl_ok p.f1 (h p (.head _))
    obtain ⟨u, h3, h4⟩ := mp_ok l (fun q hq => h q (.tail _ hq))
    refine ⟨_, fun k hk => by rw [text_Config.mpText, h1 k hk, Option.bind_some, h3 k hk, Option.bind_some], ?_⟩
    simp only [wM, List.length_append, lsz, List.length_cons, List.length_nil]
    omega
/-- A router's text, by its parts. -/
def rtOf (r : SR) (a b c : List UInt8) : List UInt8 := ([114, 111, 117, 116, 101, 114, 32] ++ r.f0.data.toList ++ [32, 123, 10]) ++ a ++ b ++ c ++ [125, 10]
theorem router_ok (r : SR) (h : okR r) (hw : r.f0.size + 20 + 300 * r.f1.length + wL r.f2 + wS r.f3 ≤ 100000000000000) : ∃ a b c, (∀ k, 10 ≤ k → text_router.netText k r.f1 = some a) ∧ text_router.linkText r.f2 = some b ∧ (∀ k, 10 ≤ k → text_router.statText k r.f3 = some c) ∧
    (∀ k, 10 ≤ k → text_router.f k r.f0 r.f1 r.f2 r.f3 r.f4 = some ⟨(rtOf r a b c).toArray⟩) ∧ (rtOf r a b c).length ≤ r.f0.size + 20 + 300 * r.f1.length + wL r.f2 + wS r.f3 := by
  obtain ⟨a, a1, a2⟩ := net_ok r.f1 h.1
  obtain ⟨b, b1, b2⟩ := link_ok r.f2 h.2.1 (by omega)
  obtain ⟨c, c1, c2⟩ := stat_ok r.f3 h.2.2
  refine ⟨a, b, c, a1, b1, c1, fun k hk => ?_, ?_⟩
  · rw [text_router.f, a1 k hk, Option.bind_some, b1, Option.bind_some, c1 k hk, Option.bind_some, if_pos (by omega)]
    rfl
  · simp only [rtOf, List.length_append, lsz, List.length_cons, List.length_nil]
    omega
theorem rt_ok : ∀ l : List SR, (∀ m ∈ l, okR m) → wR l ≤ 100000000000000 → ∃ u, (∀ k, 40 ≤ k → text_Config.rtText k l = some u) ∧ u.length ≤ wR l
  | [], _, _ => ⟨[], fun _ _ => rfl, by simp⟩
  | p :: l, h, hw => by
    simp only [wR] at hw ⊢
    obtain ⟨a, b, c, -, -, -, h1, h2⟩ := router_ok p (h p (.head _)) (by omega)
    obtain ⟨u, h3, h4⟩ := rt_ok l (fun q hq => h q (.tail _ hq)) (by omega)
    refine ⟨_, fun k hk => by rw [text_Config.rtText, h1 k (by omega), Option.bind_some, h3 k hk, Option.bind_some], ?_⟩
    simp only [List.length_append, lsz, bsz]
    omega
/-- text.Config tells it. -/
theorem config_ok (ms : List SM) (rs : List SR) (hm : ∀ m ∈ ms, okM m) (hr : ∀ r ∈ rs, okR r) (hw : wM ms + wR rs ≤ 100000000000000) :
    ∃ a b, (∀ k, 40 ≤ k → text_Config.mpText k ms = some a) ∧ (∀ k, 40 ≤ k → text_Config.rtText k rs = some b) ∧ (∀ k, 40 ≤ k → text_Config.f k ms rs = some ⟨(a ++ b).toArray⟩) ∧ a.length + b.length ≤ wM ms + wR rs := by
  obtain ⟨a, a1, a2⟩ := mp_ok ms hm
  obtain ⟨b, b1, b2⟩ := rt_ok rs hr (by omega)
  refine ⟨a, b, a1, b1, fun k hk => ?_, by omega⟩
  rw [text_Config.f, a1 k hk, Option.bind_some, b1 k hk, Option.bind_some, if_pos (by omega)]
/-! ### as the law tells it -/
theorem up0 {k k' : Nat} (hk : k ≤ k') {r : ByteArray} {a b c d e f} : maquettelaw07_Text.l0 k a b c d e f = some r → maquettelaw07_Text.l0 k' a b c d e f = some r := leO_up (F := fun k => maquettelaw07_Text.l0 k a b c d e f) (fun k => (maquettelaw07_Text.mono_l k).1 _ _ _ _ _ _) hk
theorem up1 {k k' : Nat} (hk : k ≤ k') {r : ByteArray} {a b c d e f g h i} : maquettelaw07_Text.l1 k a b c d e f g h i = some r → maquettelaw07_Text.l1 k' a b c d e f g h i = some r := leO_up (F := fun k => maquettelaw07_Text.l1 k a b c d e f g h i) (fun k => (maquettelaw07_Text.mono_l k).2.1 _ _ _ _ _ _ _ _ _) hk
theorem up2 {k k' : Nat} (hk : k ≤ k') {r : ByteArray} {a b c d} : maquettelaw07_Text.l2 k a b c d = some r → maquettelaw07_Text.l2 k' a b c d = some r := leO_up (F := fun k => maquettelaw07_Text.l2 k a b c d) (fun k => (maquettelaw07_Text.mono_l k).2.2.1 _ _ _ _) hk
theorem up3 {k k' : Nat} (hk : k ≤ k') {r : ByteArray} {a b c d e f g h i j l m} : maquettelaw07_Text.l3 k a b c d e f g h i j l m = some r → maquettelaw07_Text.l3 k' a b c d e f g h i j l m = some r := leO_up (F := fun k => maquettelaw07_Text.l3 k a b c d e f g h i j l m) (fun k => (maquettelaw07_Text.mono_l k).2.2.2.1 _ _ _ _ _ _ _ _ _ _ _ _) hk
theorem up4 {k k' : Nat} (hk : k ≤ k') {r : ByteArray} {a b c d e f g h i j l m} : maquettelaw07_Text.l4 k a b c d e f g h i j l m = some r → maquettelaw07_Text.l4 k' a b c d e f g h i j l m = some r := leO_up (F := fun k => maquettelaw07_Text.l4 k a b c d e f g h i j l m) (fun k => (maquettelaw07_Text.mono_l k).2.2.2.2.1 _ _ _ _ _ _ _ _ _ _ _ _) hk
theorem up5 {k k' : Nat} (hk : k ≤ k') {r : ByteArray} {a b c d e f g} : maquettelaw07_Text.l5 k a b c d e f g = some r → maquettelaw07_Text.l5 k' a b c d e f g = some r := leO_up (F := fun k => maquettelaw07_Text.l5 k a b c d e f g) (fun k => (maquettelaw07_Text.mono_l k).2.2.2.2.2 _ _ _ _ _ _ _) hk
theorem drop_at {α : Type} {l : List α} {i : Nat} (h : i < l.length) : ∃ x, l[i]? = some x ∧ l.drop i = x :: l.drop (i + 1) := ⟨l[i], List.getElem?_eq_getElem h, List.drop_eq_getElem_cons h⟩
theorem getD_at {α : Type} {l : List α} {i : Nat} {x z : α} (h : l[i]? = some x) : l.getD ((i : Int).toNat) z = x := by simp [List.getD, h]
theorem w1 {i : Nat} (h : i < 4611686018427387904) : wrap64 ((i : Int) + 1) = ((i + 1 : Nat) : Int) := by rw [w64s (by omega) (by omega)]; omega
theorem t5 (ss : List SS) (hs : ∀ p ∈ ss, okP p.f0) (hn : ss.length < 4611686018427387904) (xs : List SR) (n m : Int) (r : ByteArray) : ∀ d i (acc : ByteArray) (u : List UInt8), i + d = ss.length → (∀ k, 10 ≤ k → text_router.statText k (ss.drop i) = some u) → acc.size + u.length + 2 ≤ 9223372036854775807 →
    (∃ k, maquettelaw07_Text.l2 k (acc ++ ⟨u.toArray⟩ ++ ⟨#[125, 10]⟩) xs n (wrap64 (m + 1)) = some r) → ∃ k, maquettelaw07_Text.l5 k acc xs n m ss (ss.length : Int) (i : Int) = some r
  | 0, i, acc, u, hi, hu, hz, ⟨k, hk⟩ => by
    obtain rfl : i = ss.length := by omega
    have hu' := hu 10 (Nat.le_refl _)
    rw [List.drop_length] at hu'
    obtain rfl : u = [] := (Option.some.inj hu').symm
    refine ⟨k + 1, ?_⟩
    rw [maquettelaw07_Text.l5, if_neg (by omega), if_pos (by simpa using hz)]
    rwa [show acc ++ (⟨([] : List UInt8).toArray⟩ : ByteArray) = acc from app_nil acc] at hk
  | d + 1, i, acc, u, hi, hu, hz, hk => by
    obtain ⟨p, hp, hd⟩ := drop_at (l := ss) (i := i) (by omega)
    obtain ⟨t, t1, t2⟩ := ptext p.f0 (hs p (List.mem_of_getElem? hp))
    obtain ⟨v, v1, v2⟩ := stat_ok (ss.drop (i + 1)) (fun q hq => hs q (List.mem_of_mem_drop hq))
    have hu' := hu 10 (Nat.le_refl _)
    rw [hd, text_router.statText, t1 10 (Nat.le_refl _), Option.bind_some, v1 10 (Nat.le_refl _), Option.bind_some] at hu'
    have hu' := Option.some.inj hu'
    have hlen : u.length = 8 + t.size + 5 + p.f1.size + 2 + v.length := by
      rw [← hu']
      simp only [List.length_append, lsz, List.length_cons, List.length_nil]
    have ih := t5 ss hs hn xs n m r d (i + 1) (acc ++ ⟨#[9, 115, 116, 97, 116, 105, 99, 32]⟩ ++ t ++ ⟨#[32, 118, 105, 97, 32]⟩ ++ p.f1 ++ ⟨#[59, 10]⟩) v (by omega) v1 (by
      have e1 : (⟨#[9, 115, 116, 97, 116, 105, 99, 32]⟩ : ByteArray).size = 8 := rfl
      have e2 : (⟨#[32, 118, 105, 97, 32]⟩ : ByteArray).size = 5 := rfl
      have e3 : (⟨#[59, 10]⟩ : ByteArray).size = 2 := rfl
      simp only [size_app, e1, e2, e3]; omega) (by
      refine hk.imp fun k hk => ?_
      rw [← hk, ← hu']
      congr 2
      apply ext_data
      apply Array.toList_inj.1
      simp)
    obtain ⟨k, hk⟩ := ih
    refine ⟨k + 10 + 1, ?_⟩
    have e1 : (⟨#[9, 115, 116, 97, 116, 105, 99, 32]⟩ : ByteArray).size = 8 := rfl
    have e2 : (⟨#[32, 118, 105, 97, 32]⟩ : ByteArray).size = 5 := rfl
    rw [maquettelaw07_Text.l5, if_pos (by omega), if_pos (by omega), if_pos (by omega)]
    simp only [rd_T60, getD_at hp]
    rw [if_pos (by omega), t1 _ (by omega), Option.bind_some]
    simp only [size_app, e1, e2]
    rw [if_pos (by omega), if_pos (by omega), if_pos (by omega), if_pos (by omega), w1 (by omega)]
    exact up5 (by omega) hk
theorem t4 (ls : List SL) (hs : ∀ p ∈ ls, okL p) (hn : ls.length < 4611686018427387904) (hwl : wL ls ≤ 100000000000000) (xs : List SR) (n m : Int) (c0 : ByteArray) (c1 : List SP) (c2 : List SL) (ss : List SS) (c4 : Int) (r : ByteArray) : ∀ d i (acc : ByteArray) (u : List UInt8), i + d = ls.length → wL (ls.drop i) ≤ 100000000000000 → text_router.linkText (ls.drop i) = some u → acc.size + u.length ≤ 9223372036854775807 →
    (∃ k, maquettelaw07_Text.l5 k (acc ++ ⟨u.toArray⟩) xs n m ss (ss.length : Int) 0 = some r) → ∃ k, maquettelaw07_Text.l4 k acc xs n m ls (ls.length : Int) (i : Int) c0 c1 c2 ss c4 = some r
  | 0, i, acc, u, hi, hw, hu, hz, ⟨k, hk⟩ => by
    obtain rfl : i = ls.length := by omega
    rw [List.drop_length] at hu
    obtain rfl : u = [] := (Option.some.inj hu).symm
    refine ⟨k + 1, ?_⟩
    rw [maquettelaw07_Text.l4, if_neg (by omega)]
    rwa [show acc ++ (⟨([] : List UInt8).toArray⟩ : ByteArray) = acc from app_nil acc] at hk
  | d + 1, i, acc, u, hi, hw, hu, hz, hk => by
    obtain ⟨p, hp, hd⟩ := drop_at (l := ls) (i := i) (by omega)
    obtain ⟨h1, h2⟩ := hs p (List.mem_of_getElem? hp)
    rw [hd] at hw
    simp only [wL] at hw
    obtain ⟨dg, dl⟩ := digits_f (k := 25) h1 h2 (Nat.le_refl _)
    have dgk : ∀ k, 25 ≤ k → maquettelaw07_digits.f k p.f1 = some ⟨(Lib.itoa p.f1).toArray⟩ := fun k hk => leO_up (fun k => maquettelaw07_digits.mono _ k) hk dg
    have ti : strconv_Itoa.f p.f1 = some ⟨(Lib.itoa p.f1).toArray⟩ := by unfold strconv_Itoa.f; rw [if_pos (by omega)]
    have tz : (⟨(Lib.itoa p.f1).toArray⟩ : ByteArray).size ≤ 20 := by rw [itoa_sizes]; exact dl
    generalize (⟨(Lib.itoa p.f1).toArray⟩ : ByteArray) = t at dg dgk ti tz
    obtain ⟨a, a1, a2, a3, a4⟩ := name_eq (⟨#[105, 109, 112, 111, 114, 116]⟩ : ByteArray) p.f2 (by decide) (by omega)
    obtain ⟨b, b1, b2, b3, b4⟩ := name_eq (⟨#[101, 120, 112, 111, 114, 116]⟩ : ByteArray) p.f3 (by decide) (by omega)
    obtain ⟨v, v1, v2⟩ := link_ok (ls.drop (i + 1)) (fun q hq => hs q (List.mem_of_mem_drop hq)) (by omega)
    rw [hd, text_router.linkText, ti, Option.bind_some, a1, Option.bind_some, b1, Option.bind_some, v1, Option.bind_some] at hu
    have hu := Option.some.inj hu
    have hlen : u.length = 6 + p.f0.size + 6 + t.size + a.size + b.size + 2 + v.length := by
      rw [← hu]
      simp only [List.length_append, lsz, List.length_cons, List.length_nil]
    have e1 : (⟨#[9, 108, 105, 110, 107, 32]⟩ : ByteArray).size = 6 := rfl
    have e2 : (⟨#[32, 99, 111, 115, 116, 32]⟩ : ByteArray).size = 6 := rfl
    have e3 : (⟨#[59, 10]⟩ : ByteArray).size = 2 := rfl
    have e4 : (⟨#[32, 101, 120, 112, 111, 114, 116, 32]⟩ : ByteArray).size = 8 := rfl
    have e5 : (⟨#[32, 105, 109, 112, 111, 114, 116, 32]⟩ : ByteArray).size = 8 := rfl
    have ih := t4 ls hs hn hwl xs n m c0 c1 c2 ss c4 r d (i + 1) (acc ++ ⟨#[9, 108, 105, 110, 107, 32]⟩ ++ p.f0 ++ ⟨#[32, 99, 111, 115, 116, 32]⟩ ++ t ++ a ++ b ++ ⟨#[59, 10]⟩) v (by omega) (by omega) v1 (by
      simp only [size_app, e1, e2, e3]; omega) (by
      refine hk.imp fun k hk => ?_
      rw [← hk, ← hu]
      congr 1
      apply ext_data
      apply Array.toList_inj.1
      simp)
    obtain ⟨k, hk⟩ := ih
    refine ⟨k + 25 + 1, ?_⟩
    rw [maquettelaw07_Text.l4, if_pos (by omega), if_pos (by omega), if_pos (by omega)]
    simp only [rd_T48, getD_at hp]
    have i2 : (⟨#[32]⟩ : ByteArray) ++ ⟨#[105, 109, 112, 111, 114, 116]⟩ ++ ⟨#[32]⟩ = ⟨#[32, 105, 109, 112, 111, 114, 116, 32]⟩ := by decide
    have x2 : (⟨#[32]⟩ : ByteArray) ++ ⟨#[101, 120, 112, 111, 114, 116]⟩ ++ ⟨#[32]⟩ = ⟨#[32, 101, 120, 112, 111, 114, 116, 32]⟩ := by decide
    have az : p.f2.toList ≠ [] → a.size = 8 + p.f2.size := fun h => by rw [a4 h, i2, size_app, e5]
    have bz : p.f3.toList ≠ [] → b.size = 8 + p.f3.size := fun h => by rw [b4 h, x2, size_app, e4]
    rw [if_pos (by omega)]
    simp only [size_app, e1, e2, e3, e4, e5]
    rw [if_pos (by omega), if_pos (by omega), dgk _ (by omega), Option.bind_some, if_pos (by omega)]
    by_cases ha : p.f2.toList = []
    · rw [if_pos ha]
      have a3 := a3 ha
      subst a3
      by_cases hb : p.f3.toList = []
      · rw [if_pos hb]
        have b3 := b3 hb
        subst b3
        rw [if_pos (by omega), w1 (by omega)]
        rw [app_nil, app_nil] at hk
        exact up4 (by omega) hk
      · rw [if_neg hb]
        have b4' := b4 hb
        have bz := bz hb
        rw [if_pos (by omega), if_pos (by omega), if_pos (by omega), w1 (by omega)]
        rw [app_nil, b4', x2, ← assoc] at hk
        exact up4 (by omega) hk
    · rw [if_neg ha]
      have a4' := a4 ha
      have az := az ha
      by_cases hb : p.f3.toList = []
      · rw [if_pos hb]
        have b3 := b3 hb
        subst b3
        rw [if_pos (by omega), if_pos (by omega), if_pos (by omega), w1 (by omega)]
        rw [app_nil, a4', i2, ← assoc] at hk
        exact up4 (by omega) hk
      · rw [if_neg hb]
        have b4' := b4 hb
        have bz := bz hb
        rw [if_pos (by omega), if_pos (by omega), if_pos (by omega), if_pos (by omega), if_pos (by omega), w1 (by omega)]
        rw [a4', b4', i2, x2, ← assoc, ← assoc] at hk
        exact up4 (by omega) hk
theorem t3 (ps : List SP) (hs : ∀ p ∈ ps, okP p) (hn : ps.length < 4611686018427387904) (xs : List SR) (n m : Int) (c0 : ByteArray) (c1 : List SP) (ls : List SL) (ss : List SS) (c4 : Int) (r : ByteArray) : ∀ d i (acc : ByteArray) (u : List UInt8), i + d = ps.length → (∀ k, 10 ≤ k → text_router.netText k (ps.drop i) = some u) → acc.size + u.length ≤ 9223372036854775807 →
    (∃ k, maquettelaw07_Text.l4 k (acc ++ ⟨u.toArray⟩) xs n m ls (ls.length : Int) 0 c0 c1 ls ss c4 = some r) → ∃ k, maquettelaw07_Text.l3 k acc xs n m ps (ps.length : Int) (i : Int) c0 c1 ls ss c4 = some r
  | 0, i, acc, u, hi, hu, hz, ⟨k, hk⟩ => by
    obtain rfl : i = ps.length := by omega
    have hu' := hu 10 (Nat.le_refl _)
    rw [List.drop_length] at hu'
    obtain rfl : u = [] := (Option.some.inj hu').symm
    refine ⟨k + 1, ?_⟩
    rw [maquettelaw07_Text.l3, if_neg (by omega)]
    rwa [show acc ++ (⟨([] : List UInt8).toArray⟩ : ByteArray) = acc from app_nil acc] at hk
  | d + 1, i, acc, u, hi, hu, hz, hk => by
    obtain ⟨p, hp, hd⟩ := drop_at (l := ps) (i := i) (by omega)
    obtain ⟨t, t1, t2⟩ := ptext p (hs p (List.mem_of_getElem? hp))
    obtain ⟨v, v1, v2⟩ := net_ok (ps.drop (i + 1)) (fun q hq => hs q (List.mem_of_mem_drop hq))
    have hu' := hu 10 (Nat.le_refl _)
    rw [hd, text_router.netText, t1 10 (Nat.le_refl _), Option.bind_some, v1 10 (Nat.le_refl _), Option.bind_some] at hu'
    have hu' := Option.some.inj hu'
    have hlen : u.length = 5 + t.size + 2 + v.length := by
      rw [← hu']
      simp only [List.length_append, lsz, List.length_cons, List.length_nil]
    have e1 : (⟨#[9, 110, 101, 116, 32]⟩ : ByteArray).size = 5 := rfl
    have e3 : (⟨#[59, 10]⟩ : ByteArray).size = 2 := rfl
    have ih := t3 ps hs hn xs n m c0 c1 ls ss c4 r d (i + 1) (acc ++ ⟨#[9, 110, 101, 116, 32]⟩ ++ t ++ ⟨#[59, 10]⟩) v (by omega) v1 (by
      simp only [size_app, e1, e3]; omega) (by
      refine hk.imp fun k hk => ?_
      rw [← hk, ← hu']
      congr 1
      apply ext_data
      apply Array.toList_inj.1
      simp)
    obtain ⟨k, hk⟩ := ih
    refine ⟨k + 10 + 1, ?_⟩
    rw [maquettelaw07_Text.l3, if_pos (by omega), if_pos (by omega), if_pos (by omega)]
    simp only [rd_T39, getD_at hp]
    rw [if_pos (by omega), t1 _ (by omega), Option.bind_some]
    simp only [size_app, e1]
    rw [if_pos (by omega), if_pos (by omega), w1 (by omega)]
    exact up3 (by omega) hk
set_option maxHeartbeats 2000000 in
theorem t2 (rs : List SR) (hs : ∀ p ∈ rs, okR p) (hn : rs.length < 4611686018427387904) : ∀ d i (acc : ByteArray) (u : List UInt8), i + d = rs.length → wR (rs.drop i) ≤ 100000000000000 → (∀ k, 40 ≤ k → text_Config.rtText k (rs.drop i) = some u) → acc.size + u.length ≤ 9223372036854775807 →
    ∃ k, maquettelaw07_Text.l2 k acc rs (rs.length : Int) (i : Int) = some (acc ++ (⟨u.toArray⟩ : ByteArray)) := by
  intro d
  induction d with
  | zero =>
    intro i acc u hi hw hu hz
    obtain rfl : i = rs.length := by omega
    have hu' := hu 40 (Nat.le_refl _)
    rw [List.drop_length] at hu'
    obtain rfl : u = [] := (Option.some.inj hu').symm
    refine ⟨1, ?_⟩
    rw [maquettelaw07_Text.l2, if_neg (by omega), show acc ++ (⟨([] : List UInt8).toArray⟩ : ByteArray) = acc from app_nil acc]
  | succ d ih0 =>
    intro i acc u hi hw hu hz
    obtain ⟨p, hp, hd⟩ := drop_at (l := rs) (i := i) (by omega)
    have hok := hs p (List.mem_of_getElem? hp)
    rw [hd] at hw
    simp only [wR] at hw
    obtain ⟨a, b, c, a1, b1, c1, q1, q2⟩ := router_ok p hok (by omega)
    obtain ⟨v, v1, v2⟩ := rt_ok (rs.drop (i + 1)) (fun q hq => hs q (List.mem_of_mem_drop hq)) (by omega)
    have hu' := hu 40 (Nat.le_refl _)
    rw [hd, text_Config.rtText, q1 40 (by omega), Option.bind_some, v1 40 (Nat.le_refl _), Option.bind_some] at hu'
    have hu' := Option.some.inj hu'
    have hlen : u.length = (rtOf p a b c).length + v.length := by
      rw [← hu']
      simp
    have hlen2 : (rtOf p a b c).length = 7 + p.f0.size + 3 + a.length + b.length + c.length + 2 := by
      simp only [rtOf, List.length_append, lsz, List.length_cons, List.length_nil]
    have e1 : (⟨#[114, 111, 117, 116, 101, 114, 32]⟩ : ByteArray).size = 7 := rfl
    have e2 : (⟨#[32, 123, 10]⟩ : ByteArray).size = 3 := rfl
    have e3 : (⟨#[125, 10]⟩ : ByteArray).size = 2 := rfl
    have L1 : ∀ l : List SL, l.length ≤ wL l := fun l => by induction l with | nil => simp | cons x l ih => simp only [wL, List.length_cons]; omega
    have L2 : ∀ l : List SS, l.length ≤ wS l := fun l => by induction l with | nil => simp | cons x l ih => simp only [wS, List.length_cons]; omega
    have l1 := L1 p.f2
    have l2 := L2 p.f3
    have ih := ih0 (i + 1) (acc ++ (⟨#[114, 111, 117, 116, 101, 114, 32]⟩ : ByteArray) ++ p.f0 ++ (⟨#[32, 123, 10]⟩ : ByteArray) ++ (⟨a.toArray⟩ : ByteArray) ++ (⟨b.toArray⟩ : ByteArray) ++ (⟨c.toArray⟩ : ByteArray) ++ (⟨#[125, 10]⟩ : ByteArray)) v (by omega) (by omega) v1 (by
      simp only [size_app, e1, e2, e3, bsz]; omega)
    have s5 := t5 p.f3 hok.2.2 (by omega) rs (rs.length : Int) (i : Int) (acc ++ (⟨u.toArray⟩ : ByteArray)) p.f3.length 0 (acc ++ (⟨#[114, 111, 117, 116, 101, 114, 32]⟩ : ByteArray) ++ p.f0 ++ (⟨#[32, 123, 10]⟩ : ByteArray) ++ (⟨a.toArray⟩ : ByteArray) ++ (⟨b.toArray⟩ : ByteArray)) c (by omega) (by rw [List.drop_zero]; exact c1) (by
      simp only [size_app, e1, e2, bsz]; omega) (by
      rw [w1 (by omega)]
      refine ih.imp fun k hk => hk.trans ?_
      rw [← hu']
      refine congrArg some (ext_data (Array.toList_inj.1 ?_))
      simp [rtOf])
    rw [show ((0 : Nat) : Int) = 0 from rfl] at s5
    have s4 := t4 p.f2 hok.2.1 (by omega) (by omega) rs (rs.length : Int) (i : Int) p.f0 p.f1 p.f2 p.f3 p.f4 (acc ++ (⟨u.toArray⟩ : ByteArray)) p.f2.length 0 (acc ++ (⟨#[114, 111, 117, 116, 101, 114, 32]⟩ : ByteArray) ++ p.f0 ++ (⟨#[32, 123, 10]⟩ : ByteArray) ++ (⟨a.toArray⟩ : ByteArray)) b (by omega) (by rw [List.drop_zero]; omega) (by rw [List.drop_zero]; exact b1) (by
      simp only [size_app, e1, e2, bsz]; omega) s5
    rw [show ((0 : Nat) : Int) = 0 from rfl] at s4
    have s3 := t3 p.f1 hok.1 (by omega) rs (rs.length : Int) (i : Int) p.f0 p.f1 p.f2 p.f3 p.f4 (acc ++ (⟨u.toArray⟩ : ByteArray)) p.f1.length 0 (acc ++ (⟨#[114, 111, 117, 116, 101, 114, 32]⟩ : ByteArray) ++ p.f0 ++ (⟨#[32, 123, 10]⟩ : ByteArray)) a (by omega) (by rw [List.drop_zero]; exact a1) (by
      simp only [size_app, e1, e2]; omega) s4
    rw [show ((0 : Nat) : Int) = 0 from rfl] at s3
    obtain ⟨k, hk⟩ := s3
    refine ⟨k + 1, ?_⟩
    rw [maquettelaw07_Text.l2, if_pos (by omega), if_pos (by omega), if_pos (by omega)]
    simp only [rd_T46, getD_at hp]
    simp only [size_app, e1, e2]
    rw [if_pos (by omega), if_pos (by omega), if_pos (by omega)]
    exact hk
theorem t1 (cs : List SC) (hs : ∀ p ∈ cs, okC p) (hn : cs.length < 4611686018427387904) (xs : List SM) (n m : Int) (ys : List SM) (rs : List SR) (r : ByteArray) : ∀ d i (acc : ByteArray) (u : List UInt8), i + d = cs.length → (∀ k, 40 ≤ k → text_Config.clText k (cs.drop i) = some u) → acc.size + u.length + 2 ≤ 9223372036854775807 →
    (∃ k, maquettelaw07_Text.l0 k (acc ++ (⟨u.toArray⟩ : ByteArray) ++ (⟨#[125, 10]⟩ : ByteArray)) xs n (wrap64 (m + 1)) ys rs = some r) → ∃ k, maquettelaw07_Text.l1 k acc xs n m cs (cs.length : Int) (i : Int) ys rs = some r
  | 0, i, acc, u, hi, hu, hz, ⟨k, hk⟩ => by
    obtain rfl : i = cs.length := by omega
    have hu' := hu 40 (Nat.le_refl _)
    rw [List.drop_length] at hu'
    obtain rfl : u = [] := (Option.some.inj hu').symm
    refine ⟨k + 1, ?_⟩
    rw [maquettelaw07_Text.l1, if_neg (by omega), if_pos (by simpa using hz)]
    rwa [show acc ++ (⟨([] : List UInt8).toArray⟩ : ByteArray) = acc from app_nil acc] at hk
  | d + 1, i, acc, u, hi, hu, hz, hk => by
    obtain ⟨p, hp, hd⟩ := drop_at (l := cs) (i := i) (by omega)
    obtain ⟨t, t0, t1', t2⟩ := ctext p (hs p (List.mem_of_getElem? hp))
    obtain ⟨v, v1, v2⟩ := cl_ok (cs.drop (i + 1)) (fun q hq => hs q (List.mem_of_mem_drop hq))
    have hu' := hu 40 (Nat.le_refl _)
    rw [hd, text_Config.clText, t0 40 (Nat.le_refl _), Option.bind_some, v1 40 (Nat.le_refl _), Option.bind_some] at hu'
    have hu' := Option.some.inj hu'
    have hlen : u.length = t.size + v.length := by
      rw [← hu']
      simp only [List.length_append, lsz]
    have ih := t1 cs hs hn xs n m ys rs r d (i + 1) (acc ++ t) v (by omega) v1 (by
      simp only [size_app]; omega) (by
      refine hk.imp fun k hk => ?_
      rw [← hk, ← hu']
      congr 2
      apply ext_data
      apply Array.toList_inj.1
      simp)
    obtain ⟨k, hk⟩ := ih
    refine ⟨k + 40 + 1, ?_⟩
    rw [maquettelaw07_Text.l1, if_pos (by omega), if_pos (by omega), if_pos (by omega)]
    simp only [rd_T41, getD_at hp]
    rw [t1' _ (by omega), Option.bind_some, if_pos (by omega), w1 (by omega)]
    exact up1 (by omega) hk
set_option maxHeartbeats 2000000 in
theorem t0 (ms : List SM) (rs : List SR) (hm : ∀ p ∈ ms, okM p) (hr : ∀ p ∈ rs, okR p) (hn : ms.length < 4611686018427387904) (hnr : rs.length < 4611686018427387904) (hwr : wR rs ≤ 100000000000000) (b : List UInt8) (hb : ∀ k, 40 ≤ k → text_Config.rtText k rs = some b) :
    ∀ d i (acc : ByteArray) (u : List UInt8), i + d = ms.length → wM (ms.drop i) ≤ 100000000000000 → (∀ k, 40 ≤ k → text_Config.mpText k (ms.drop i) = some u) → acc.size + u.length + b.length ≤ 9223372036854775807 →
    ∃ k, maquettelaw07_Text.l0 k acc ms (ms.length : Int) (i : Int) ms rs = some (acc ++ (⟨u.toArray⟩ : ByteArray) ++ (⟨b.toArray⟩ : ByteArray)) := by
  intro d
  induction d with
  | zero =>
    intro i acc u hi hw hu hz
    obtain rfl : i = ms.length := by omega
    have hu' := hu 40 (Nat.le_refl _)
    rw [List.drop_length] at hu'
    obtain rfl : u = [] := (Option.some.inj hu').symm
    obtain ⟨k, hk⟩ := t2 rs hr hnr rs.length 0 acc b (by omega) (by rw [List.drop_zero]; exact hwr) hb (by simp at hz; omega)
    refine ⟨k + 1, ?_⟩
    rw [maquettelaw07_Text.l0, if_neg (by omega), show acc ++ (⟨([] : List UInt8).toArray⟩ : ByteArray) = acc from app_nil acc]
    exact hk
  | succ d ih0 =>
    intro i acc u hi hw hu hz
    obtain ⟨p, hp, hd⟩ := drop_at (l := ms) (i := i) (by omega)
    have hok := hm p (List.mem_of_getElem? hp)
    rw [hd] at hw
    simp only [wM] at hw
    obtain ⟨c, c1, c2⟩ := cl_ok p.f1 hok
    obtain ⟨v, v1, v2⟩ := mp_ok (ms.drop (i + 1)) (fun q hq => hm q (List.mem_of_mem_drop hq))
    have hu' := hu 40 (Nat.le_refl _)
    rw [hd, text_Config.mpText, c1 40 (by omega), Option.bind_some, v1 40 (Nat.le_refl _), Option.bind_some] at hu'
    have hu' := Option.some.inj hu'
    have hlen : u.length = 4 + p.f0.size + 3 + c.length + 2 + v.length := by
      rw [← hu']
      simp only [List.length_append, lsz, List.length_cons, List.length_nil]
    have e1 : (⟨#[109, 97, 112, 32]⟩ : ByteArray).size = 4 := rfl
    have e2 : (⟨#[32, 123, 10]⟩ : ByteArray).size = 3 := rfl
    have e3 : (⟨#[125, 10]⟩ : ByteArray).size = 2 := rfl
    have ih := ih0 (i + 1) (acc ++ (⟨#[109, 97, 112, 32]⟩ : ByteArray) ++ p.f0 ++ (⟨#[32, 123, 10]⟩ : ByteArray) ++ (⟨c.toArray⟩ : ByteArray) ++ (⟨#[125, 10]⟩ : ByteArray)) v (by omega) (by omega) v1 (by
      simp only [size_app, e1, e2, e3, bsz]; omega)
    have s1 := t1 p.f1 hok (by omega) ms (ms.length : Int) (i : Int) ms rs (acc ++ (⟨u.toArray⟩ : ByteArray) ++ (⟨b.toArray⟩ : ByteArray)) p.f1.length 0 (acc ++ (⟨#[109, 97, 112, 32]⟩ : ByteArray) ++ p.f0 ++ (⟨#[32, 123, 10]⟩ : ByteArray)) c (by omega) c1 (by
      simp only [size_app, e1, e2]; omega) (by
      rw [w1 (by omega)]
      refine ih.imp fun k hk => hk.trans ?_
      rw [← hu']
      refine congrArg some (ext_data (Array.toList_inj.1 ?_))
      simp)
    rw [show ((0 : Nat) : Int) = 0 from rfl] at s1
    obtain ⟨k, hk⟩ := s1
    refine ⟨k + 1, ?_⟩
    rw [maquettelaw07_Text.l0, if_pos (by omega), if_pos (by omega), if_pos (by omega)]
    simp only [rd_T36, getD_at hp]
    simp only [size_app, e1, e2]
    rw [if_pos (by omega), if_pos (by omega), if_pos (by omega)]
    exact hk
end Go.Proofs.YtjcopneljfcfoaaDoor.TxtP
