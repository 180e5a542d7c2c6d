/- Plain law: how many lines a configuration's text has; TextLines as the printer tells it answers true of every shape. -/
import Derived.Test.YtjcopneljfcfoaaDoorTxtS
import Derived.Test.YtjcopneljfcfoaaDoorPRawx30
namespace Go.Proofs.YtjcopneljfcfoaaDoor.TxtP
open Go.RowKit Go.Proofs.YtjcopneljfcfoaaDoor.PRaw Go.Proofs.YtjcopneljfcfoaaDoorW.PrintWords Go.Proofs.YtjcopneljfcfoaaDoorW.PrintLast Go.Proofs.YtjcopneljfcfoaaDoorW.PrintMore
open Go.Proofs.YtjcopneljfcfoaaDoor.Cfg (Shape cmaps crouts config_at mapsFrom rout lnks lnksFrom netsOf statsOf nm mname mpd lnk isL)
set_option linter.unusedVariables false
set_option linter.unusedSimpArgs false
def Post {α : Type} (P : α → Prop) (o : Option α) : Prop := ∀ r, o = some r → P r
theorem pnone {α : Type} {P : α → Prop} : Post P none := fun _ h => by cases h
theorem psome {α : Type} {P : α → Prop} {x : α} (h : P x) : Post P (some x) := fun r e => by cases e; exact h
theorem pite {α : Type} {P : α → Prop} {c : Prop} [Decidable c] {a b : Option α} (h : Post P a) (k : Post P b) : Post P (if c then a else b) := by split <;> assumption
theorem pbind {α β : Type} {P : β → Prop} {o : Option α} {f : α → Option β} (Q : α → Prop) (h : Post Q o) (k : ∀ x, Q x → Post P (f x)) : Post P (o.bind f) := by
  intro r e
  obtain ⟨x, h1, h2⟩ := Option.bind_eq_some_iff.1 e
  exact k x (h x h1) r h2
def nn (t : ByteArray) : Prop := (10 : UInt8) ∉ t.data.toList
theorem nn_app {a b : ByteArray} (h : nn a) (k : nn b) : nn (a ++ b) := by
  unfold nn at *
  simp only [ByteArray.data_append, Array.toList_append, List.mem_append]
  exact fun e => e.elim h k
theorem nn_cnt {a : ByteArray} (h : nn a) : a.data.toList.count 10 = 0 := List.count_eq_zero.2 h
theorem dec_nn (n : Nat) : (10 : UInt8) ∉ Lib.decDigits n := by
  have key : ∀ d : Fin 10, (10 : UInt8) ≠ UInt8.ofNat (48 + d.val) := by decide
  induction n using Nat.strongRecOn with
  | _ n ih =>
    by_cases h : n < 10
    · rw [Lib.decDigits_one h]
      exact fun e => key ⟨n, h⟩ (List.mem_singleton.1 e)
    · rw [Lib.decDigits, dif_neg h]
      intro e
      rcases List.mem_append.1 e with e | e
      · exact ih (n / 10) (by omega) e
      · exact key ⟨n % 10, Nat.mod_lt _ (by omega)⟩ (List.mem_singleton.1 e)
theorem itoa_nn (n : Int) : Post nn (strconv_Itoa.f n) := by
  unfold strconv_Itoa.f
  refine pite (psome ?_) pnone
  show (10 : UInt8) ∉ Lib.itoa n
  unfold Lib.itoa
  split
  · intro e
    rcases List.mem_cons.1 e with e | e
    · exact absurd e (by decide)
    · exact dec_nn _ e
  · exact dec_nn _
theorem tags_nn (w : ByteArray) (hw : nn w) : ∀ k b x i, nn x → Post nn (text_tags.l0 k w b x i) := by
  intro k
  induction k with
  | zero => intro b x i hx; exact pnone
  | succ k ih =>
    intro b x i hx
    rw [text_tags.l0]
    have h32 : nn (⟨#[32]⟩ : ByteArray) := by unfold nn; decide
    refine pite (pite (pite (pbind nn (itoa_nn _) fun t ht => pite (pite (ih _ _ _ (nn_app hx (nn_app h32 ht))) pnone) pnone) (ih _ _ _ hx)) pnone) (pite (psome ?_) (pite (pite (psome (nn_app (nn_app h32 hw) hx)) pnone) pnone))
    unfold nn; decide
theorem tag_nn (w : ByteArray) (hw : nn w) (k : Nat) (b : Int) : Post nn (text_tags.f k w b) := tags_nn w hw k b _ _ (by unfold nn; decide)
theorem num_nn (w : ByteArray) (hw : nn w) (n : Int) : Post nn (text_number.f w n) := by
  have h32 : nn (⟨#[32]⟩ : ByteArray) := by unfold nn; decide
  unfold text_number.f
  refine pite (psome (by unfold nn; decide)) (pite (pite (pbind nn (itoa_nn _) fun t ht => pite (psome (nn_app (nn_app (nn_app h32 hw) h32) ht)) pnone) pnone) pnone)
theorem join_nn (sep : List UInt8) (hs : (10 : UInt8) ∉ sep) (l : List (List UInt8)) (h : ∀ x ∈ l, (10 : UInt8) ∉ x) : (10 : UInt8) ∉ Lib.join l sep := by
  cases l with
  | nil => simp [Lib.join_nil]
  | cons x r =>
    rw [Lib.join_cons]
    intro e
    rcases List.mem_append.1 e with e | e
    · exact h x (.head _) e
    · unfold Lib.joinTail at e
      obtain ⟨y, hy, e⟩ := List.mem_flatten.1 e
      obtain ⟨z, hz, rfl⟩ := List.mem_map.1 hy
      rcases List.mem_append.1 e with e | e
      · exact hs e
      · exact h z (.tail _ hz) e
theorem prefix_nn : ∀ k (ps : List ByteArray) i a b, (∀ p ∈ ps, nn p) → Post nn (prefix_Text.l0 k ps i a b) := by
  intro k
  induction k with
  | zero => intro ps i a b h; exact pnone
  | succ k ih =>
    intro ps i a b h
    rw [prefix_Text.l0]
    refine pite (pite (pbind nn (itoa_nn _) fun t ht => pite (ih _ _ _ _ ?_) pnone) pnone) (pbind nn ?_ fun t ht => pite (pbind nn (itoa_nn _) fun u hu => pite (psome (nn_app (nn_app ht (by unfold nn; decide)) hu)) pnone) pnone)
    · intro p hp
      rcases List.mem_append.1 hp with hp | hp
      · exact h p hp
      · rw [List.mem_singleton.1 hp]; exact ht
    · unfold strings_Join.f
      refine pite (psome ?_) pnone
      refine join_nn _ (by decide) _ ?_
      intro x hx
      obtain ⟨p, hp, rfl⟩ := List.mem_map.1 hx
      exact h p hp
theorem pfx_nn (k : Nat) (a b : Int) : Post nn (prefix_Text.f k a b) := by
  unfold prefix_Text.f
  refine pbind (fun _ => True) (fun _ _ => trivial) fun t _ => pite (prefix_nn k _ _ _ _ (fun p hp => by cases hp)) (psome (by unfold nn; decide))
/-- One line, which is at its end. -/
def one (t : ByteArray) : Prop := t.data.toList.count 10 = 1 ∧ t.data.toList.getLast? = some 10
theorem j1_one : ∀ k x a b c d e f g h i j, nn x → Post one (text_Clause.j1 k x a b c d e f g h i j) := by
  intro k x a b c d e f g h i j hx
  cases k with
  | zero => exact pnone
  | succ k =>
    rw [text_Clause.j1]
    refine pbind nn (tag_nn _ (by unfold nn; decide) _ _) fun s hs => pite (pbind nn (tag_nn _ (by unfold nn; decide) _ _) fun t ht => pite (pbind nn (num_nn _ (by unfold nn; decide) _) fun u hu => pite (pbind nn (num_nn _ (by unfold nn; decide) _) fun v hv => pite (pite (psome ?_) pnone) pnone) pnone) pnone) pnone
    have hh := nn_cnt (nn_app (nn_app (nn_app (nn_app hx hs) ht) hu) hv)
    generalize x ++ s ++ t ++ u ++ v = y at hh
    unfold one
    rw [ByteArray.data_append, Array.toList_append, List.count_append, hh]
    exact ⟨by decide, by rw [List.getLast?_append]; rfl⟩
theorem j0_one (k : Nat) (x : ByteArray) (a b c d e f g h i j) (hx : nn x) : Post one (text_Clause.j0 k x a b c d e f g h i j) := by
  cases k with
  | zero => exact pnone
  | succ k =>
    rw [text_Clause.j0]
    have hth : nn (⟨#[32, 116, 104, 101, 110]⟩ : ByteArray) := by unfold nn; decide
    have hdr : nn (⟨#[32, 100, 114, 111, 112]⟩ : ByteArray) := by unfold nn; decide
    exact pbind nn (tag_nn _ (by unfold nn; decide) _ _) fun s hs => pbind nn (tag_nn _ (by unfold nn; decide) _ _) fun t ht =>
      pite (pite (pite (pite (pite (j1_one _ _ _ _ _ _ _ _ _ _ _ _ (nn_app (nn_app hx (nn_app (nn_app hs ht) hth)) hdr)) pnone) (j1_one _ _ _ _ _ _ _ _ _ _ _ _ (nn_app hx (nn_app (nn_app hs ht) hth)))) pnone) pnone) pnone
theorem clause_one (k : Nat) (a b c d e f g h i j) : Post one (text_Clause.f k a b c d e f g h i j) := by
  unfold text_Clause.f
  exact pite (j0_one _ _ _ _ _ _ _ _ _ _ _ _ (by unfold nn; decide)) (pbind nn (pfx_nn _ _ _) fun t ht => pite (j0_one _ _ _ _ _ _ _ _ _ _ _ _ (nn_app (by unfold nn; decide) ht)) pnone)
/-! ### of the whole text -/
def Ends (u : List UInt8) : Prop := u = [] ∨ u.getLast? = some 10
theorem ends_app {a b : List UInt8} (h : Ends a) (k : Ends b) : Ends (a ++ b) := by
  rcases k with rfl | k
  · rwa [List.append_nil]
  · exact Or.inr (by rw [List.getLast?_append, k]; rfl)
theorem ends_lit (a b : List UInt8) (h : b.getLast? = some 10) : Ends (a ++ b) := Or.inr (by rw [List.getLast?_append, h]; rfl)
theorem cl_cnt : ∀ (l : List SC) k u, text_Config.clText k l = some u → u.count 10 = l.length ∧ Ends u
  | [], k, u, h => by obtain rfl := Option.some.inj h; exact ⟨rfl, Or.inl rfl⟩
  | c :: l, k, u, h => by
    rw [text_Config.clText] at h
    obtain ⟨t, h1, h⟩ := Option.bind_eq_some_iff.1 h
    obtain ⟨v, h2, h⟩ := Option.bind_eq_some_iff.1 h
    obtain rfl := Option.some.inj h
    have o := clause_one _ _ _ _ _ _ _ _ _ _ _ t h1
    have r := cl_cnt l k v h2
    exact ⟨by rw [List.count_append, o.1, r.1, List.length_cons]; omega, ends_app (Or.inr o.2) r.2⟩
def cM : List SM → Nat
  | [] => 0
  | m :: l => 2 + m.f1.length + cM l
theorem mp_cnt : ∀ (l : List SM) k u, (∀ m ∈ l, nn m.f0) → text_Config.mpText k l = some u → u.count 10 = cM l ∧ Ends u
  | [], k, u, _, h => by obtain rfl := Option.some.inj h; exact ⟨rfl, Or.inl rfl⟩
  | c :: l, k, u, hn, h => by
    rw [text_Config.mpText] at h
    obtain ⟨t, h1, h⟩ := Option.bind_eq_some_iff.1 h
    obtain ⟨v, h2, h⟩ := Option.bind_eq_some_iff.1 h
    obtain rfl := Option.some.inj h
    have o := cl_cnt _ k t h1
    have r := mp_cnt l k v (fun m hm => hn m (.tail _ hm)) h2
    have z := nn_cnt (hn c (.head _))
    have e1 : ([109, 97, 112, 32] : List UInt8).count 10 = 0 := by decide
    have e2 : ([32, 123, 10] : List UInt8).count 10 = 1 := by decide
    have e3 : ([125, 10] : List UInt8).count 10 = 1 := by decide
    refine ⟨by simp only [List.count_append, z, o.1, r.1, e1, e2, e3, cM]; omega, ends_app ?_ r.2⟩
    exact ends_lit _ _ rfl
theorem net_cnt : ∀ (l : List SP) k u, text_router.netText k l = some u → u.count 10 = l.length ∧ Ends u
  | [], k, u, h => by obtain rfl := Option.some.inj h; exact ⟨rfl, Or.inl rfl⟩
  | c :: l, k, u, h => by
    rw [text_router.netText] at h
    obtain ⟨t, h1, h⟩ := Option.bind_eq_some_iff.1 h
    obtain ⟨v, h2, h⟩ := Option.bind_eq_some_iff.1 h
    obtain rfl := Option.some.inj h
    have r := net_cnt l k v h2
    have z := nn_cnt (pfx_nn _ _ _ t h1)
    have e1 : ([9, 110, 101, 116, 32] : List UInt8).count 10 = 0 := by decide
    have e3 : ([59, 10] : List UInt8).count 10 = 1 := by decide
    refine ⟨by simp only [List.count_append, z, r.1, e1, e3, List.length_cons]; omega, ends_app ?_ r.2⟩
    exact ends_lit _ _ rfl
theorem name_nn (w n : ByteArray) (hw : nn w) (hn : nn n) : Post nn (text_name.f w n) := by
  have h32 : nn (⟨#[32]⟩ : ByteArray) := by unfold nn; decide
  unfold text_name.f
  exact pite (psome (by unfold nn; decide)) (pite (pite (pite (psome (nn_app (nn_app (nn_app h32 hw) h32) hn)) pnone) pnone) pnone)
theorem link_cnt : ∀ (l : List SL) u, (∀ x ∈ l, nn x.f0 ∧ nn x.f2 ∧ nn x.f3) → text_router.linkText l = some u → u.count 10 = l.length ∧ Ends u
  | [], u, _, h => by obtain rfl := Option.some.inj h; exact ⟨rfl, Or.inl rfl⟩
  | c :: l, u, hn, h => by
    rw [text_router.linkText] at h
    obtain ⟨t, h1, h⟩ := Option.bind_eq_some_iff.1 h
    obtain ⟨a, h2, h⟩ := Option.bind_eq_some_iff.1 h
    obtain ⟨b, h3, h⟩ := Option.bind_eq_some_iff.1 h
    obtain ⟨v, h4, h⟩ := Option.bind_eq_some_iff.1 h
    obtain rfl := Option.some.inj h
    have hc := hn c (.head _)
    have r := link_cnt l v (fun m hm => hn m (.tail _ hm)) h4
    have z0 := nn_cnt hc.1
    have z1 := nn_cnt (itoa_nn _ t h1)
    have z2 := nn_cnt (name_nn _ _ (by unfold nn; decide) hc.2.1 a h2)
    have z3 := nn_cnt (name_nn _ _ (by unfold nn; decide) hc.2.2 b h3)
    have e1 : ([9, 108, 105, 110, 107, 32] : List UInt8).count 10 = 0 := by decide
    have e2 : ([32, 99, 111, 115, 116, 32] : List UInt8).count 10 = 0 := by decide
    have e3 : ([59, 10] : List UInt8).count 10 = 1 := by decide
    refine ⟨by simp only [List.count_append, z0, z1, z2, z3, r.1, e1, e2, e3, List.length_cons]; omega, ends_app ?_ r.2⟩
    exact ends_lit _ _ rfl
theorem stat_cnt : ∀ (l : List SS) k u, (∀ x ∈ l, nn x.f1) → text_router.statText k l = some u → u.count 10 = l.length ∧ Ends u
  | [], k, u, _, h => by obtain rfl := Option.some.inj h; exact ⟨rfl, Or.inl rfl⟩
  | c :: l, k, u, hn, h => by
    rw [text_router.statText] at h
    obtain ⟨t, h1, h⟩ := Option.bind_eq_some_iff.1 h
    obtain ⟨v, h2, h⟩ := Option.bind_eq_some_iff.1 h
    obtain rfl := Option.some.inj h
    have r := stat_cnt l k v (fun m hm => hn m (.tail _ hm)) h2
    have z0 := nn_cnt (hn c (.head _))
    have z1 := nn_cnt (pfx_nn _ _ _ t h1)
    have e1 : ([9, 115, 116, 97, 116, 105, 99, 32] : List UInt8).count 10 = 0 := by decide
    have e2 : ([32, 118, 105, 97, 32] : List UInt8).count 10 = 0 := by decide
    have e3 : ([59, 10] : List UInt8).count 10 = 1 := by decide
    refine ⟨by simp only [List.count_append, z0, z1, r.1, e1, e2, e3, List.length_cons]; omega, ends_app ?_ r.2⟩
    exact ends_lit _ _ rfl
def nnR (r : SR) : Prop := nn r.f0 ∧ (∀ x ∈ r.f2, nn x.f0 ∧ nn x.f2 ∧ nn x.f3) ∧ (∀ x ∈ r.f3, nn x.f1)
def cR : List SR → Nat
  | [] => 0
  | r :: l => 2 + (r.f1.length + r.f2.length + r.f3.length) + cR l
theorem rt_cnt : ∀ (l : List SR) k u, (∀ m ∈ l, nnR m) → text_Config.rtText k l = some u → u.count 10 = cR l ∧ Ends u
  | [], k, u, _, h => by obtain rfl := Option.some.inj h; exact ⟨rfl, Or.inl rfl⟩
  | c :: l, k, u, hn, h => by
    rw [text_Config.rtText] at h
    obtain ⟨t, h1, h⟩ := Option.bind_eq_some_iff.1 h
    obtain ⟨v, h2, h⟩ := Option.bind_eq_some_iff.1 h
    obtain rfl := Option.some.inj h
    have hc := hn c (.head _)
    have r := rt_cnt l k v (fun m hm => hn m (.tail _ hm)) h2
    rw [text_router.f] at h1
    obtain ⟨a, g1, h1⟩ := Option.bind_eq_some_iff.1 h1
    obtain ⟨b, g2, h1⟩ := Option.bind_eq_some_iff.1 h1
    obtain ⟨d, g3, h1⟩ := Option.bind_eq_some_iff.1 h1
    split at h1
    · obtain rfl := Option.some.inj h1
      have q1 := net_cnt _ k a g1
      have q2 := link_cnt _ b hc.2.1 g2
      have q3 := stat_cnt _ k d hc.2.2 g3
      have z := nn_cnt hc.1
      have e1 : ([114, 111, 117, 116, 101, 114, 32] : List UInt8).count 10 = 0 := by decide
      have e2 : ([32, 123, 10] : List UInt8).count 10 = 1 := by decide
      have e3 : ([125, 10] : List UInt8).count 10 = 1 := by decide
      refine ⟨by simp only [List.count_append, z, q1.1, q2.1, q3.1, r.1, e1, e2, e3, cR]; omega, ends_app ?_ r.2⟩
      exact ends_lit _ _ rfl
    · cases h1
/-! ### the law's own count -/
theorem bt_at {t : ByteArray} {i : Nat} {b : UInt8} (h : t.data.toList[i]? = some b) : bt t (i : Int) = (b.toNat : Int) := by
  have hlt : i < t.size := by
    have := (List.getElem?_eq_some_iff.1 h).1
    rwa [lsz] at this
  unfold bt
  rw [dif_pos (by simpa using hlt)]
  have e := (List.getElem?_eq_some_iff.1 h).2
  simp only [Int.toNat_natCast]
  rw [← e]
  rfl
theorem lines_l (t : ByteArray) (ht : t.size < 4611686018427387904) (he : Ends t.data.toList) (X : Nat) (hX : X < 4611686018427387904) : ∀ d i c, i + d = t.size → c + (t.data.toList.drop i).count 10 = X → ∃ k, maquettelaw07_TextLines.l2 k (X : Int) t (c : Int) (i : Int) = some true := by
  intro d
  induction d with
  | zero =>
    intro i c hi hc
    obtain rfl : i = t.size := by omega
    rw [← lsz, List.drop_length] at hc
    obtain rfl : c = X := by simpa using hc
    refine ⟨1, ?_⟩
    rw [maquettelaw07_TextLines.l2, if_neg (by omega), if_pos rfl]
    by_cases h0 : t.size = 0
    · rw [if_pos (by omega)]
    · have e : wrap64 ((t.size : Int) - 1) = ((t.size - 1 : Nat) : Int) := by unfold wrap64; omega
      rw [if_neg (by omega), e, if_pos (by omega), if_pos (by omega)]
      have hl : t.data.toList[t.size - 1]? = some 10 := by
        rcases he with he | he
        · exact absurd (by rw [← lsz, he]; rfl) h0
        · rw [List.getLast?_eq_getElem?, lsz] at he
          exact he
      rw [bt_at hl]
      rfl
  | succ d ih =>
    intro i c hi hc
    obtain ⟨p, hp, hd⟩ := drop_at (l := t.data.toList) (i := i) (by rw [lsz]; omega)
    rw [hd, List.count_cons] at hc
    have hb := bt_at hp
    by_cases h10 : p = 10
    · subst h10
      simp only [beq_self_eq_true, if_true] at hc
      obtain ⟨k, hk⟩ := ih (i + 1) (c + 1) (by omega) (by omega)
      refine ⟨k + 1, ?_⟩
      rw [maquettelaw07_TextLines.l2, if_pos (by omega), if_pos (by omega), if_pos (by rw [hb]; rfl), w1 (by omega), w1 (by omega)]
      exact hk
    · have hne : (p == 10) = false := by simpa using h10
      rw [hne] at hc
      simp only [Bool.false_eq_true, if_false, Nat.add_zero] at hc
      obtain ⟨k, hk⟩ := ih (i + 1) c (by omega) hc
      refine ⟨k + 1, ?_⟩
      rw [maquettelaw07_TextLines.l2, if_pos (by omega), if_pos (by omega), if_neg (by
        rw [hb]
        intro e
        apply h10
        have : p.toNat = (10 : UInt8).toNat := by have : (10 : UInt8).toNat = 10 := rfl; omega
        exact UInt8.toNat_inj.1 this), w1 (by omega)]
      exact hk
def sM : List SM → Nat
  | [] => 0
  | m :: l => m.f1.length + sM l
def sR : List SR → Nat
  | [] => 0
  | r :: l => r.f1.length + r.f2.length + r.f3.length + sR l
theorem cM_eq : ∀ l : List SM, cM l = 2 * l.length + sM l
  | [] => rfl
  | m :: l => by simp only [cM, sM, List.length_cons, cM_eq l]; omega
theorem cR_eq : ∀ l : List SR, cR l = 2 * l.length + sR l
  | [] => rfl
  | m :: l => by simp only [cR, sR, List.length_cons, cR_eq l]; omega
theorem lines1 (ms : List SM) (rs : List SR) (hn : rs.length < 4611686018427387904) (X : Nat) (hX : X < 4611686018427387904) (h : ∃ k t, text_Config.f k ms rs = some t ∧ maquettelaw07_TextLines.l2 k (X : Int) t 0 0 = some true) : ∀ d i (x : Nat), i + d = rs.length → x + sR (rs.drop i) = X → ∃ k, maquettelaw07_TextLines.l1 k (x : Int) rs (rs.length : Int) (i : Int) ms rs = some true := by
  intro d
  induction d with
  | zero =>
    intro i x hi hx
    obtain rfl : i = rs.length := by omega
    rw [List.drop_length] at hx
    obtain rfl : x = X := by simpa [sR] using hx
    obtain ⟨k, t, h1, h2⟩ := h
    refine ⟨k + 1, ?_⟩
    rw [maquettelaw07_TextLines.l1, if_neg (by omega), h1, Option.bind_some]
    exact h2
  | succ d ih =>
    intro i x hi hx
    obtain ⟨p, hp, hd⟩ := drop_at (l := rs) (i := i) (by omega)
    rw [hd, sR] at hx
    obtain ⟨k, hk⟩ := ih (i + 1) (x + (p.f1.length + p.f2.length + p.f3.length)) (by omega) (by omega)
    have e1 : wrap64 ((x : Int) + (wrap64 ((wrap64 ((p.f1.length : Int) + (p.f2.length : Int))) + (p.f3.length : Int)))) = ((x + (p.f1.length + p.f2.length + p.f3.length) : Nat) : Int) := by
      rw [← Int.natCast_add p.f1.length, Cfg.w64n (by omega), ← Int.natCast_add (p.f1.length + p.f2.length), Cfg.w64n (by omega), ← Int.natCast_add x]
      exact Cfg.w64n (by omega)
    refine ⟨k + 1, ?_⟩
    rw [maquettelaw07_TextLines.l1, if_pos (by omega), if_pos (by omega), if_pos (by omega)]
    simp only [rd_T46, getD_at hp]
    rw [e1, w1 (by omega)]
    exact hk
theorem lines0 (ms : List SM) (rs : List SR) (hm : ms.length < 4611686018427387904) (hn : rs.length < 4611686018427387904) (X : Nat) (hX : X < 4611686018427387904) (h : ∃ k t, text_Config.f k ms rs = some t ∧ maquettelaw07_TextLines.l2 k (X : Int) t 0 0 = some true) : ∀ d i (x : Nat), i + d = ms.length → x + sM (ms.drop i) + sR rs = X → ∃ k, maquettelaw07_TextLines.l0 k (x : Int) ms (ms.length : Int) (i : Int) ms rs = some true := by
  intro d
  induction d with
  | zero =>
    intro i x hi hx
    obtain rfl : i = ms.length := by omega
    rw [List.drop_length] at hx
    simp only [sM, Nat.add_zero] at hx
    obtain ⟨k, hk⟩ := lines1 ms rs hn X hX h rs.length 0 x (by omega) (by rw [List.drop_zero]; exact hx)
    rw [show ((0 : Nat) : Int) = 0 from rfl] at hk
    refine ⟨k + 1, ?_⟩
    rw [maquettelaw07_TextLines.l0, if_neg (by omega)]
    exact hk
  | succ d ih =>
    intro i x hi hx
    obtain ⟨p, hp, hd⟩ := drop_at (l := ms) (i := i) (by omega)
    rw [hd, sM] at hx
    obtain ⟨k, hk⟩ := ih (i + 1) (x + p.f1.length) (by omega) (by omega)
    have e1 : wrap64 ((x : Int) + (p.f1.length : Int)) = ((x + p.f1.length : Nat) : Int) := by
      rw [← Int.natCast_add]
      exact Cfg.w64n (by omega)
    refine ⟨k + 1, ?_⟩
    rw [maquettelaw07_TextLines.l0, if_pos (by omega), if_pos (by omega), if_pos (by omega)]
    simp only [rd_T36, getD_at hp]
    rw [e1, w1 (by omega)]
    exact hk
theorem nm_nn {k : Nat} (h : k < 8) : nn (nm k) := by
  have : ∀ k : Fin 8, (10 : UInt8) ∉ (nm k.val).data.toList := by decide
  exact this ⟨k, h⟩
theorem mname_nn {k : Nat} (h : k < 4) : nn (mname k) := by
  have : ∀ k : Fin 4, (10 : UInt8) ∉ (mname k.val).data.toList := by decide
  exact this ⟨k, h⟩
theorem mpd_nn (q n : Nat) : nn (mpd q n) := by
  unfold mpd
  split
  · unfold nn; decide
  · split
    · unfold nn; decide
    · exact mname_nn (Nat.lt_of_lt_of_le (Nat.mod_lt _ (by omega)) (by omega))
theorem maps_nn : ∀ (l : List (List Cfg.SU)) (i : Nat), ∀ m ∈ mapsFrom i l, nn m.f0
  | [], i, m, hm => by cases hm
  | rs :: l, i, m, hm => by
    unfold mapsFrom at hm
    split at hm
    · rename_i h4
      rcases List.mem_cons.1 hm with rfl | hm
      · exact mname_nn h4
      · exact maps_nn l (i + 1) m hm
    · exact maps_nn l (i + 1) m hm
theorem links_nn (ls ns : List Int) (q n k : Nat) (hn : n < 8) : ∀ x ∈ lnks ls ns q n k, nn x.f0 ∧ nn x.f2 ∧ nn x.f3 := by
  intro x hx
  unfold lnks lnksFrom at hx
  obtain ⟨j, hj, rfl⟩ := List.mem_map.1 hx
  have hj := List.mem_range'_1.1 (List.mem_filter.1 hj).1
  exact ⟨nm_nn (by omega), mpd_nn _ _, mpd_nn _ _⟩
theorem routs_nn {a0 : Int} {ls : List Int} {mp : List (List Cfg.SU)} {ns nt ws : List Int} : ∀ r ∈ crouts a0 ls mp ns nt ws, nnR r := by
  intro r hr
  unfold crouts at hr
  obtain ⟨k, hk, rfl⟩ := List.mem_map.1 hr
  have hk := List.mem_range.1 hk
  refine ⟨nm_nn (by omega), links_nn _ _ _ _ _ (by omega), ?_⟩
  intro x hx
  have hx : x ∈ statsOf ws (lnks ls ns mp.length (a0 % 8).toNat k) k := hx
  unfold statsOf at hx
  split at hx
  · rename_i h
    rw [List.mem_singleton.1 hx]
    have hlt := Nat.mod_lt (Cfg.num ws k / 8) h.2
    have e : (lnks ls ns mp.length (a0 % 8).toNat k)[Cfg.num ws k / 8 % (lnks ls ns mp.length (a0 % 8).toNat k).length]? = some (lnks ls ns mp.length (a0 % 8).toNat k)[Cfg.num ws k / 8 % (lnks ls ns mp.length (a0 % 8).toNat k).length] := List.getElem?_eq_getElem hlt
    have := (links_nn ls ns mp.length (a0 % 8).toNat k (by omega) _ (List.mem_of_getElem? e)).1
    simp only [List.getD, e, Option.getD_some]
    exact this
  · cases hx
theorem llines {a0 : Int} {ls : List Int} {mp : List (List Cfg.SU)} {ns nt ws : List Int} (h : Shape a0 ls mp ns nt ws) : ∃ k, maquettelaw07_TextLines.f k a0 ls mp ns nt ws = some true := by
  obtain ⟨K, hK⟩ := config_at h
  obtain ⟨p1, p2, p3, p4⟩ := shape_ok h
  obtain ⟨a, b, h1, h2, h3, h4⟩ := config_ok (cmaps mp) (crouts a0 ls mp ns nt ws) p1 p2 (by omega)
  have ca : a.count 10 = cM (cmaps mp) ∧ Ends a := mp_cnt (cmaps mp) 40 a (maps_nn mp 0) (h1 40 (Nat.le_refl _))
  have cb : b.count 10 = cR (crouts a0 ls mp ns nt ws) ∧ Ends b := rt_cnt (crouts a0 ls mp ns nt ws) 40 b routs_nn (h2 40 (Nat.le_refl _))
  have la := List.count_le_length (a := (10 : UInt8)) (l := a)
  have lb := List.count_le_length (a := (10 : UInt8)) (l := b)
  rw [ca.1, cM_eq] at la
  rw [cb.1, cR_eq] at lb
  have hl := lines_l ⟨(a ++ b).toArray⟩ (by rw [bsz, List.length_append]; omega) (by simpa using ends_app ca.2 cb.2) (cM (cmaps mp) + cR (crouts a0 ls mp ns nt ws)) (by rw [cM_eq, cR_eq]; omega) (⟨(a ++ b).toArray⟩ : ByteArray).size 0 0 (by omega) (by
    rw [List.drop_zero]
    simp only [List.count_append, ca.1, cb.1]
    omega)
  obtain ⟨k1, hk1⟩ := hl
  rw [show ((0 : Nat) : Int) = 0 from rfl] at hk1
  obtain ⟨k, hk⟩ := lines0 (cmaps mp) (crouts a0 ls mp ns nt ws) (by omega) (by omega) (cM (cmaps mp) + cR (crouts a0 ls mp ns nt ws)) (by rw [cM_eq, cR_eq]; omega)
    ⟨k1 + 40, _, h3 _ (by omega), leO_up (F := fun k => maquettelaw07_TextLines.l2 k _ _ _ _) (fun k => (maquettelaw07_TextLines.mono_l k).2.2 _ _ _ _) (show k1 ≤ k1 + 40 by omega) hk1⟩
    (cmaps mp).length 0 (2 * (cmaps mp).length + 2 * (crouts a0 ls mp ns nt ws).length) (by omega) (by rw [List.drop_zero, cM_eq, cR_eq]; omega)
  rw [show ((0 : Nat) : Int) = 0 from rfl] at hk
  refine ⟨K + k + 40, ?_⟩
  unfold maquettelaw07_TextLines.f
  rw [awake7' (by omega), Option.bind_some, if_pos rfl, hK _ (by omega), Option.bind_some]
  simp only
  have e : wrap64 (wrap64 (2 * ((cmaps mp).length : Int)) + wrap64 (2 * ((crouts a0 ls mp ns nt ws).length : Int))) = ((2 * (cmaps mp).length + 2 * (crouts a0 ls mp ns nt ws).length : Nat) : Int) := by
    have z1 : (2 : Int) * ((cmaps mp).length : Int) = ((2 * (cmaps mp).length : Nat) : Int) := by omega
    have z2 : (2 : Int) * ((crouts a0 ls mp ns nt ws).length : Int) = ((2 * (crouts a0 ls mp ns nt ws).length : Nat) : Int) := by omega
    rw [z1, z2, Cfg.w64n (a := 2 * (cmaps mp).length) (by omega), Cfg.w64n (a := 2 * (crouts a0 ls mp ns nt ws).length) (by omega), ← Int.natCast_add]
    exact Cfg.w64n (by omega)
  rw [e]
  exact leO_up (F := fun k => maquettelaw07_TextLines.l0 k _ _ _ _ _ _) (fun k => (maquettelaw07_TextLines.mono_l k).1 _ _ _ _ _ _) (show k ≤ K + k + 40 by omega) hk
end Go.Proofs.YtjcopneljfcfoaaDoor.TxtP
