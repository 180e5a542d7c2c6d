/- Plain law: LowerClasses answers true. -/
import Derived.Test.YtpalofndmbmiiaaCfg
import Derived.Test.YtpalofndmbmiiaaPLowx15
namespace Go.Proofs.Ytpalofndmbmiiaa.LowC
open Go.RowKit Go.Proofs.Ytpalofndmbmiiaa.PLow Go.Proofs.YtpalofndmbmiiaaW.PrintWords Go.Proofs.YtpalofndmbmiiaaW.PrintLast Go.Proofs.YtpalofndmbmiiaaW.PrintMore Go.Proofs.Ytpalofndmbmiiaa.Low
open Go.Proofs.Ytpalofndmbmiiaa.SortP (lessB leB)
open Go.Proofs.Ytpalofndmbmiiaa.Mq (Pf Rt)
set_option linter.unusedVariables false
set_option linter.unusedSimpArgs false
set_option linter.all false
abbrev P2 := S42
abbrev RT := S36
abbrev MP := S63
abbrev CF := S30
theorem up {α : Type} {F : Nat → Option α} (h : ∀ k, LeO (F k) (F (k + 1))) {k k' : Nat} (hk : k ≤ k') {r : α} (e : F k = some r) : F k' = some r := by
  induction hk with
  | refl => exact e
  | step _ ih => exact h _ _ ih
theorem w1 {i : Nat} (h : i < 9223372036854775807) : wrap64 ((i : Int) + 1) = ((i + 1 : Nat) : Int) := by unfold wrap64; omega
/-! A row that came in, told as one that is shared. -/
theorem V_of_C {α : Type} {d : Kd α} (hd : Kd.Heap d) {w : World} {A : Option Addr} {c : Nat} {xs : List α} (h : Kd.C d w A xs.length xs) (hc : xs.length ≤ c) (e b : Nat) : Kd.V d e w b (fun _ => True) (.slice A xs.length c) xs :=
  ⟨A, c, rfl, hc, fun W' hW => hd.C (fun k hk => hW k trivial hk) h⟩
theorem hp_pf : Kd.Heap k42 := by
  unfold k42
  refine Kd.heap_iso _ ?_
  repeat (first | exact Kd.heap_string | exact Kd.heap_int _ | exact Kd.heap_bool | refine Kd.heap_pair ?_ ?_)
theorem hp_cl : Kd.Heap k83 := by
  unfold k83
  refine Kd.heap_iso _ ?_
  repeat (first | exact Kd.heap_string | exact Kd.heap_int _ | exact Kd.heap_bool | exact hp_pf | refine Kd.heap_pair ?_ ?_)
theorem hp_lk : Kd.Heap k38 := by
  unfold k38
  refine Kd.heap_iso _ ?_
  repeat (first | exact Kd.heap_string | exact Kd.heap_int _ | exact Kd.heap_bool | refine Kd.heap_pair ?_ ?_)
theorem hp_st : Kd.Heap k67 := by
  unfold k67
  refine Kd.heap_iso _ ?_
  repeat (first | exact Kd.heap_string | exact Kd.heap_int _ | exact Kd.heap_bool | exact hp_pf | refine Kd.heap_pair ?_ ?_)
theorem hp_mp : Kd.Heap k63 := by
  unfold k63
  refine Kd.heap_iso _ ?_
  repeat (first | exact Kd.heap_string | exact Kd.heap_int _ | exact Kd.heap_bool | exact Kd.heap_slice _ hp_cl | refine Kd.heap_pair ?_ ?_)
theorem hp_rt : Kd.Heap k36 := by
  unfold k36
  refine Kd.heap_iso _ ?_
  repeat (first | exact Kd.heap_string | exact Kd.heap_int _ | exact Kd.heap_bool | exact Kd.heap_slice _ hp_pf | exact Kd.heap_slice _ hp_lk | exact Kd.heap_slice _ hp_st | refine Kd.heap_pair ?_ ?_)
/-! The classes: what they are. -/
theorem index_mem (ac : List Pf) (p : Pf) : 0 ≤ indexB ac p ↔ p ∈ ac := by
  unfold indexB
  cases h : ac.findIdx? (fun q => p == q) with
  | none =>
    rw [List.findIdx?_eq_none_iff] at h
    constructor
    · intro h'; exact absurd h' (by decide)
    · intro hp
      have := h p hp
      simp at this
  | some k =>
    rw [List.findIdx?_eq_some_iff_getElem] at h
    obtain ⟨hk, h1, -⟩ := h
    constructor
    · intro _
      have : p = ac[k] := by simpa using h1
      rw [this]
      exact List.getElem_mem hk
    · intro _
      exact Int.natCast_nonneg k
theorem mem_add (acc : List Pf) (p x : Pf) : x ∈ addB acc p ↔ x ∈ acc ∨ x = p := by
  unfold addB
  by_cases h : 0 ≤ indexB acc p
  · rw [if_pos h]
    constructor
    · exact Or.inl
    · rintro (h1 | rfl)
      · exact h1
      · exact (index_mem acc x).1 h
  · rw [if_neg h]
    simp
theorem nodup_add (acc : List Pf) (p : Pf) (h : acc.Nodup) : (addB acc p).Nodup := by
  unfold addB
  by_cases h0 : 0 ≤ indexB acc p
  · rw [if_pos h0]; exact h
  · rw [if_neg h0]
    have hn : p ∉ acc := fun hp => h0 ((index_mem acc p).2 hp)
    rw [List.nodup_append]
    refine ⟨h, by simp, fun a ha b hb => ?_⟩
    rw [List.mem_singleton.1 hb]
    intro e
    exact hn (e ▸ ha)
theorem mem_adds (ps : List Pf) : ∀ (acc : List Pf) (x : Pf), x ∈ ps.foldl addB acc ↔ x ∈ acc ∨ x ∈ ps := by
  induction ps with
  | nil => intro acc x; simp
  | cons p ps ih =>
    intro acc x
    rw [List.foldl_cons, ih, mem_add]
    simp only [List.mem_cons]
    constructor
    · rintro ((h | h) | h)
      · exact .inl h
      · exact .inr (.inl h)
      · exact .inr (.inr h)
    · rintro (h | h | h)
      · exact .inl (.inl h)
      · exact .inl (.inr h)
      · exact .inr h
theorem nodup_adds (ps : List Pf) : ∀ (acc : List Pf), acc.Nodup → (ps.foldl addB acc).Nodup := by
  induction ps with
  | nil => intro acc h; exact h
  | cons p ps ih => intro acc h; exact ih _ (nodup_add acc p h)
theorem mem_nets (rs : List Rt) : ∀ (acc : List Pf) (x : Pf), x ∈ rs.foldl (fun acc r => r.nets.foldl addB acc) acc ↔ x ∈ acc ∨ ∃ r ∈ rs, x ∈ r.nets := by
  induction rs with
  | nil => intro acc x; simp
  | cons r rs ih =>
    intro acc x
    rw [List.foldl_cons, ih, mem_adds]
    constructor
    · rintro ((h | h) | ⟨q, hq, h⟩)
      · exact .inl h
      · exact .inr ⟨r, .head _, h⟩
      · exact .inr ⟨q, .tail _ hq, h⟩
    · rintro (h | ⟨q, hq, h⟩)
      · exact .inl (.inl h)
      · rcases List.mem_cons.1 hq with rfl | hq
        · exact .inl (.inr h)
        · exact .inr ⟨q, hq, h⟩
theorem nodup_nets (rs : List Rt) : ∀ (acc : List Pf), acc.Nodup → (rs.foldl (fun acc r => r.nets.foldl addB acc) acc).Nodup := by
  induction rs with
  | nil => intro acc h; exact h
  | cons r rs ih => intro acc h; exact ih _ (nodup_adds _ acc h)
theorem mem_classes (rs : List Rt) (x : Pf) : x ∈ classesB rs ↔ ∃ r ∈ rs, x ∈ r.nets := by
  unfold classesB netsB
  rw [List.mem_mergeSort, mem_nets]
  simp
theorem le_trans (a b c : Pf) (h1 : leB a b = true) (h2 : leB b c = true) : leB a c = true := by
  simp only [leB, lessB, Bool.not_eq_true', Bool.or_eq_false_iff, decide_eq_false_iff_not, Bool.and_eq_false_iff, beq_eq_false_iff_ne] at *
  omega
theorem le_total (a b : Pf) : (leB a b || leB b a) = true := by
  simp only [leB, lessB, Bool.or_eq_true, Bool.not_eq_true', Bool.or_eq_false_iff, decide_eq_false_iff_not, Bool.and_eq_false_iff, beq_eq_false_iff_ne]
  omega
theorem lt_of (a b : Pf) (h : leB a b = true) (hne : a ≠ b) : lessB a b = true := by
  cases a; cases b
  simp only [leB, lessB, Bool.not_eq_true', Bool.or_eq_false_iff, decide_eq_false_iff_not, Bool.and_eq_false_iff, beq_eq_false_iff_ne, Bool.or_eq_true, decide_eq_true_eq, Bool.and_eq_true, beq_iff_eq] at *
  simp only [ne_eq, Pf.mk.injEq, not_and] at hne
  omega
theorem rising (rs : List Rt) : (classesB rs).Pairwise (fun a b => lessB a b = true) := by
  have h1 : (classesB rs).Pairwise (fun a b => leB a b = true) := List.pairwise_mergeSort le_trans le_total _
  have h2 : (classesB rs).Nodup := (List.mergeSort_perm _ _).nodup_iff.2 (nodup_nets rs [] List.nodup_nil)
  refine List.Pairwise.imp ?_ (h1.and h2)
  rintro a b ⟨h, hne⟩
  exact lt_of a b h hne
theorem less_f (a b c d : Int) : prefix_Less.f a b c d = some (lessB ⟨a, b⟩ ⟨c, d⟩) := by
  unfold prefix_Less.f lessB
  by_cases h1 : a < c
  · rw [if_pos h1]; simp [h1]
  · rw [if_neg h1]
    by_cases h2 : a = c
    · rw [if_pos h2]; simp [h2]
    · rw [if_neg h2]; simp [h1, h2]
def cls (R : List RT) : List P2 := (classesB (R.map toRt)).map frPf
def sz (R : List RT) : Nat := (R.map fun r => r.f1.length).sum
theorem classes_f (M : List MP) (R : List RT) (h : sz R ≤ 8000000000000) : lower_Classes.f M R = some (cls R) := by
  unfold lower_Classes.f
  rw [if_pos (show (R.map fun r => r.f1.length).sum ≤ 8000000000000 from h)]
  rfl
theorem cls_len (R : List RT) : (cls R).length ≤ sz R := by
  unfold cls classesB netsB
  rw [List.length_map, List.length_mergeSort]
  have h := nets_len (R.map toRt) []
  have e : tot (R.map toRt) = sz R := by
    unfold tot sz
    rw [List.map_map]
    congr 1
    refine List.map_congr_left fun x _ => ?_
    show (x.f1.map toPf).length = x.f1.length
    rw [List.length_map]
  rw [e] at h
  simpa using h
theorem cls_rise (R : List RT) (k : Nat) (a b : P2) (ha : (cls R)[k]? = some a) (hb : (cls R)[k + 1]? = some b) : lessB ⟨a.f0, a.f1⟩ ⟨b.f0, b.f1⟩ = true := by
  unfold cls at ha hb
  rw [List.getElem?_map] at ha hb
  cases ha' : (classesB (R.map toRt))[k]? with
  | none => rw [ha'] at ha; cases ha
  | some x =>
    cases hb' : (classesB (R.map toRt))[k + 1]? with
    | none => rw [hb'] at hb; cases hb
    | some y =>
      rw [ha'] at ha
      rw [hb'] at hb
      obtain rfl := Option.some.inj ha
      obtain rfl := Option.some.inj hb
      obtain ⟨h1, rfl⟩ := List.getElem?_eq_some_iff.1 ha'
      obtain ⟨h2, rfl⟩ := List.getElem?_eq_some_iff.1 hb'
      exact List.pairwise_iff_getElem.1 (rising (R.map toRt)) k (k + 1) h1 h2 (by omega)
theorem mem_cls (R : List RT) (a : P2) : a ∈ cls R ↔ ∃ r ∈ R, ∃ q ∈ r.f1, q = a := by
  unfold cls
  rw [List.mem_map]
  constructor
  · rintro ⟨x, hx, rfl⟩
    obtain ⟨r, hr, h⟩ := (mem_classes _ x).1 hx
    obtain ⟨r', hr', rfl⟩ := List.mem_map.1 hr
    obtain ⟨q, hq, rfl⟩ := List.mem_map.1 h
    exact ⟨r', hr', q, hq, rfl⟩
  · rintro ⟨r, hr, q, hq, rfl⟩
    exact ⟨toPf q, (mem_classes _ _).2 ⟨toRt r, List.mem_map.2 ⟨r, hr, rfl⟩, List.mem_map.2 ⟨q, hq, rfl⟩⟩, rfl⟩
/-! The law's loops. -/
theorem rd42 {X : List P2} {i : Nat} {t : P2} (h : X[i]? = some t) : rd_T42 X (i : Int) = t := by
  unfold rd_T42
  rw [List.getD_eq_getElem?_getD, Int.toNat_natCast, h]
  rfl
theorem rd36 {X : List RT} {i : Nat} {t : RT} (h : X[i]? = some t) : rd_T36 X (i : Int) = t := by
  unfold rd_T36
  rw [List.getD_eq_getElem?_getD, Int.toNat_natCast, h]
  rfl
theorem rd30 {X : List CF} {i : Nat} {t : CF} (h : X[i]? = some t) : rd_T30 X (i : Int) = t := by
  unfold rd_T30
  rw [List.getD_eq_getElem?_getD, Int.toNat_natCast, h]
  rfl
theorem drop_at {α : Type} {l : List α} {i : Nat} (h : i < l.length) : ∃ x, l[i]? = some x ∧ l.drop i = x :: l.drop (i + 1) := ⟨l[i], List.getElem?_eq_getElem h, List.drop_eq_getElem_cons h⟩
def eqp (p0 p1 : Int) (q : P2) : Bool := p0 == q.f0 && (p1 == q.f1)
def eqq (p0 p1 : Int) (q : P2) : Bool := q.f0 == p0 && (q.f1 == p1)
section
variable (C : List CF) (n : Int) (i : Nat) (M : List MP) (R : List RT)
theorem l3_at (a : Nat) (rr : Nat) (hrr : rr < 9223372036854775807) (nets : List P2) (hn : nets.length ≤ 9223372036854775806) (p0 p1 : Int) : ∀ d j (b : Bool), j + d = nets.length →
    (∃ k, maquettelaw13_LowerClasses.l2 k (cls R) (b || (nets.drop j).any (eqp p0 p1)) C n (i : Int) (cls R) ((cls R).length : Int) (a : Int) R (R.length : Int) ((rr + 1 : Nat) : Int) M R p0 p1 = some true) →
    ∃ k, maquettelaw13_LowerClasses.l3 k (cls R) b C n (i : Int) (cls R) ((cls R).length : Int) (a : Int) R (R.length : Int) (rr : Int) nets (nets.length : Int) (j : Int) M R p0 p1 = some true
  | 0, j, b, hj, ⟨k, h⟩ => by
    obtain rfl : j = nets.length := by omega
    rw [List.drop_length, List.any_nil, Bool.or_false] at h
    refine ⟨k + 1, ?_⟩
    rw [maquettelaw13_LowerClasses.l3, if_neg (by omega), w1 hrr]
    exact h
  | d + 1, j, b, hj, ⟨k, h⟩ => by
    obtain ⟨q, hq, hd⟩ := drop_at (l := nets) (i := j) (by omega)
    rw [hd, List.any_cons, ← Bool.or_assoc] at h
    obtain ⟨k', h'⟩ := l3_at a rr hrr nets hn p0 p1 d (j + 1) (b || eqp p0 p1 q) (by omega) ⟨k, h⟩
    refine ⟨k' + 1, ?_⟩
    rw [maquettelaw13_LowerClasses.l3, if_pos (by omega), if_pos (by omega), if_pos (by omega), rd42 hq, w1 (by omega)]
    cases b with
    | true =>
      rw [if_pos rfl]
      rw [Bool.true_or] at h'
      exact h'
    | false =>
      rw [if_neg (by decide)]
      rw [Bool.false_or] at h'
      exact h'
theorem l2_at (hRl : R.length ≤ 9223372036854775806) (hnl : ∀ r ∈ R, r.f1.length ≤ 9223372036854775806) (a : Nat) (ha : a < 9223372036854775807) (p0 p1 : Int) (hnext : ∃ k, maquettelaw13_LowerClasses.l1 k (cls R) C n (i : Int) (cls R) ((cls R).length : Int) ((a + 1 : Nat) : Int) M R = some true) : ∀ d r (b : Bool), r + d = R.length → (b || (R.drop r).any (fun x => x.f1.any (eqp p0 p1))) = true →
    ∃ k, maquettelaw13_LowerClasses.l2 k (cls R) b C n (i : Int) (cls R) ((cls R).length : Int) (a : Int) R (R.length : Int) (r : Int) M R p0 p1 = some true
  | 0, r, b, hr, hb => by
    obtain rfl : r = R.length := by omega
    rw [List.drop_length, List.any_nil, Bool.or_false] at hb
    obtain ⟨k, h⟩ := hnext
    refine ⟨k + 1, ?_⟩
    rw [maquettelaw13_LowerClasses.l2, if_neg (by omega), if_pos hb, w1 ha]
    exact h
  | d + 1, r, b, hr, hb => by
    obtain ⟨x, hx, hd⟩ := drop_at (l := R) (i := r) (by omega)
    rw [hd, List.any_cons, ← Bool.or_assoc] at hb
    have ih := l2_at hRl hnl a ha p0 p1 hnext d (r + 1) (b || x.f1.any (eqp p0 p1)) (by omega) hb
    obtain ⟨k, h⟩ := l3_at C n i M R a r (by omega) x.f1 (hnl x (List.mem_of_getElem? hx)) p0 p1 x.f1.length 0 b (by omega) (by rw [List.drop_zero]; exact ih)
    refine ⟨k + 1, ?_⟩
    rw [maquettelaw13_LowerClasses.l2, if_pos (by omega), if_pos (by omega), if_pos (by omega), rd36 hx]
    exact h
theorem l1_at (hcl : (cls R).length ≤ 9223372036854775806) (hRl : R.length ≤ 9223372036854775806) (hnl : ∀ r ∈ R, r.f1.length ≤ 9223372036854775806) (hnext : ∃ k, maquettelaw13_LowerClasses.l4 k (cls R) C n (i : Int) R (R.length : Int) 0 = some true) : ∀ d a, a + d = (cls R).length →
    ∃ k, maquettelaw13_LowerClasses.l1 k (cls R) C n (i : Int) (cls R) ((cls R).length : Int) (a : Int) M R = some true
  | 0, a, ha => by
    obtain rfl : a = (cls R).length := by omega
    obtain ⟨k, h⟩ := hnext
    refine ⟨k + 1, ?_⟩
    rw [maquettelaw13_LowerClasses.l1, if_neg (by omega)]
    exact h
  | d + 1, a, ha => by
    obtain ⟨p, hp, -⟩ := drop_at (l := cls R) (i := a) (by omega)
    have ih := l1_at hcl hRl hnl hnext d (a + 1) (by omega)
    obtain ⟨r, hr, q, hq, rfl⟩ := (mem_cls R p).1 (List.mem_of_getElem? hp)
    have hany : (false || (R.drop 0).any (fun x => x.f1.any (eqp q.f0 q.f1))) = true := by
      rw [Bool.false_or, List.drop_zero, List.any_eq_true]
      exact ⟨r, hr, List.any_eq_true.2 ⟨q, hq, by simp [eqp]⟩⟩
    obtain ⟨k, h⟩ := l2_at C n i M R hRl hnl a (by omega) q.f0 q.f1 ih R.length 0 false (by omega) hany
    have hj : maquettelaw13_LowerClasses.j2 (k + 1) (cls R) C n (i : Int) (cls R) ((cls R).length : Int) (a : Int) false M R q.f0 q.f1 = some true := by
      rw [maquettelaw13_LowerClasses.j2, if_neg (by decide)]
      exact h
    refine ⟨k + 2, ?_⟩
    by_cases h0 : a = 0
    · rw [maquettelaw13_LowerClasses.l1, if_pos (by omega), if_pos (by omega), if_pos (by omega), if_neg (by omega), rd42 hp]
      exact hj
    · have e1 : wrap64 ((a : Int) - 1) = ((a - 1 : Nat) : Int) := by unfold wrap64; omega
      obtain ⟨p', hp'⟩ : ∃ p', (cls R)[a - 1]? = some p' := ⟨_, List.getElem?_eq_getElem (by omega)⟩
      have hrise := cls_rise R (a - 1) p' q hp' (by rw [show a - 1 + 1 = a by omega]; exact hp)
      rw [maquettelaw13_LowerClasses.l1, if_pos (by omega), if_pos (by omega), if_pos (by omega), if_pos (by omega), e1, if_pos (by omega), if_pos (by omega), rd42 hp, rd42 hp', less_f, Option.bind_some, hrise]
      exact hj
theorem l6_at (hcl : (cls R).length ≤ 9223372036854775806) (r : Nat) (nets : List P2) (j : Nat) (hj : j < 9223372036854775807) (q0 q1 : Int) (hnext : ∃ k, maquettelaw13_LowerClasses.l5 k (cls R) C n (i : Int) R (R.length : Int) (r : Int) nets (nets.length : Int) ((j + 1 : Nat) : Int) = some true) : ∀ d t (b : Bool), t + d = (cls R).length → (b || ((cls R).drop t).any (eqq q0 q1)) = true →
    ∃ k, maquettelaw13_LowerClasses.l6 k (cls R) b C n (i : Int) R (R.length : Int) (r : Int) nets (nets.length : Int) (j : Int) (cls R) ((cls R).length : Int) (t : Int) q0 q1 = some true
  | 0, t, b, ht, hb => by
    obtain rfl : t = (cls R).length := by omega
    rw [List.drop_length, List.any_nil, Bool.or_false] at hb
    obtain ⟨k, h⟩ := hnext
    refine ⟨k + 1, ?_⟩
    rw [maquettelaw13_LowerClasses.l6, if_neg (by omega), if_pos hb, w1 hj]
    exact h
  | d + 1, t, b, ht, hb => by
    obtain ⟨x, hx, hd⟩ := drop_at (l := cls R) (i := t) (by omega)
    rw [hd, List.any_cons, ← Bool.or_assoc] at hb
    obtain ⟨k, h⟩ := l6_at hcl r nets j hj q0 q1 hnext d (t + 1) (b || eqq q0 q1 x) (by omega) hb
    refine ⟨k + 1, ?_⟩
    rw [maquettelaw13_LowerClasses.l6, if_pos (by omega), if_pos (by omega), if_pos (by omega), rd42 hx, w1 (by omega)]
    cases b with
    | true =>
      rw [if_pos rfl]
      rw [Bool.true_or] at h
      exact h
    | false =>
      rw [if_neg (by decide)]
      rw [Bool.false_or] at h
      exact h
theorem l5_at (hcl : (cls R).length ≤ 9223372036854775806) (r : Nat) (hr : r < 9223372036854775807) (x : RT) (hx : x ∈ R) (hnl : x.f1.length ≤ 9223372036854775806) (hnext : ∃ k, maquettelaw13_LowerClasses.l4 k (cls R) C n (i : Int) R (R.length : Int) ((r + 1 : Nat) : Int) = some true) : ∀ d j, j + d = x.f1.length →
    ∃ k, maquettelaw13_LowerClasses.l5 k (cls R) C n (i : Int) R (R.length : Int) (r : Int) x.f1 (x.f1.length : Int) (j : Int) = some true
  | 0, j, hj => by
    obtain rfl : j = x.f1.length := by omega
    obtain ⟨k, h⟩ := hnext
    refine ⟨k + 1, ?_⟩
    rw [maquettelaw13_LowerClasses.l5, if_neg (by omega), w1 hr]
    exact h
  | d + 1, j, hj => by
    obtain ⟨q, hq, -⟩ := drop_at (l := x.f1) (i := j) (by omega)
    have ih := l5_at hcl r hr x hx hnl hnext d (j + 1) (by omega)
    have hany : (false || ((cls R).drop 0).any (eqq q.f0 q.f1)) = true := by
      rw [Bool.false_or, List.drop_zero, List.any_eq_true]
      exact ⟨q, (mem_cls R q).2 ⟨x, hx, q, List.mem_of_getElem? hq, rfl⟩, by simp [eqq]⟩
    obtain ⟨k, h⟩ := l6_at C n i R hcl r x.f1 j (by omega) q.f0 q.f1 ih (cls R).length 0 false (by omega) hany
    refine ⟨k + 1, ?_⟩
    rw [maquettelaw13_LowerClasses.l5, if_pos (by omega), if_pos (by omega), if_pos (by omega), rd42 hq]
    exact h
theorem l4_at (hcl : (cls R).length ≤ 9223372036854775806) (hRl : R.length ≤ 9223372036854775806) (hnl : ∀ r ∈ R, r.f1.length ≤ 9223372036854775806) (hi : i < 9223372036854775807) (hnext : ∃ k, maquettelaw13_LowerClasses.l0 k C n ((i + 1 : Nat) : Int) = some true) : ∀ d r, r + d = R.length →
    ∃ k, maquettelaw13_LowerClasses.l4 k (cls R) C n (i : Int) R (R.length : Int) (r : Int) = some true
  | 0, r, hr => by
    obtain rfl : r = R.length := by omega
    obtain ⟨k, h⟩ := hnext
    refine ⟨k + 1, ?_⟩
    rw [maquettelaw13_LowerClasses.l4, if_neg (by omega), w1 hi]
    exact h
  | d + 1, r, hr => by
    obtain ⟨x, hx, -⟩ := drop_at (l := R) (i := r) (by omega)
    have ih := l4_at hcl hRl hnl hi hnext d (r + 1) (by omega)
    obtain ⟨k, h⟩ := l5_at C n i R hcl r (by omega) x (List.mem_of_getElem? hx) (hnl x (List.mem_of_getElem? hx)) ih x.f1.length 0 (by omega)
    refine ⟨k + 1, ?_⟩
    rw [maquettelaw13_LowerClasses.l4, if_pos (by omega), if_pos (by omega), if_pos (by omega), rd36 hx]
    exact h
end
/-- What may be asked of a configuration. -/
structure Fit (R : List RT) : Prop where
  l : R.length ≤ 9223372036854775806
  n : ∀ r ∈ R, r.f1.length ≤ 9223372036854775806
  s : sz R ≤ 8000000000000
theorem l0_one (C : List CF) (n : Int) (i : Nat) (M : List MP) (R : List RT) (hF : Fit R) (hC : C[i]? = some ⟨M, R⟩) (hn : n = (C.length : Int)) (hi : i < 1000) (hnext : ∃ k, maquettelaw13_LowerClasses.l0 k C n ((i + 1 : Nat) : Int) = some true) : ∃ k, maquettelaw13_LowerClasses.l0 k C n (i : Int) = some true := by
  have hlt := (List.getElem?_eq_some_iff.1 hC).1
  have hcl := cls_len R
  have hs := hF.s
  have h4 := l4_at C n i R (by omega) hF.l hF.n (by omega) hnext R.length 0 (by omega)
  obtain ⟨k, h⟩ := l1_at C n i M R (by omega) hF.l hF.n h4 (cls R).length 0 (by omega)
  refine ⟨k + 1, ?_⟩
  rw [maquettelaw13_LowerClasses.l0, if_pos (by omega), if_pos (by omega), if_pos (by omega), rd30 hC, classes_f M R hF.s, Option.bind_some]
  exact h
theorem awake_ok : maquettelaw13_awake.f = some true := by
  unfold maquettelaw13_awake.f
  decide +kernel
theorem config_fit (a0 : Int) (ls : List Int) (mp : List (List Cfg.SU)) (ns nt ws : List Int) (ha : 0 ≤ a0 ∧ a0 ≤ 255) : Fit (Cfg.crouts a0 ls mp ns nt ws) := by
  have hl : (Cfg.crouts a0 ls mp ns nt ws).length ≤ 8 := by
    unfold Cfg.crouts
    rw [List.length_map, List.length_range]
    omega
  have h1 : ∀ r ∈ Cfg.crouts a0 ls mp ns nt ws, r.f1.length ≤ 1 := by
    intro r hr
    unfold Cfg.crouts at hr
    obtain ⟨k, -, rfl⟩ := List.mem_map.1 hr
    show (Cfg.netsOf nt k).length ≤ 1
    unfold Cfg.netsOf
    split <;> simp
  have hsum : ∀ (R : List RT), (∀ r ∈ R, r.f1.length ≤ 1) → sz R ≤ R.length := by
    intro R
    induction R with
    | nil => intro _; exact Nat.le_refl _
    | cons r R ih =>
      intro h
      have := ih (fun x hx => h x (.tail _ hx))
      have := h r (.head _)
      simp only [sz, List.map_cons, List.sum_cons, List.length_cons] at *
      omega
  have := hsum _ h1
  exact ⟨by omega, fun r hr => by have := h1 r hr; omega, by omega⟩
theorem llow {a0 : Int} {ls : List Int} {mp : List (List Cfg.SU)} {ns nt ws : List Int} (h : Cfg.Shape a0 ls mp ns nt ws) (M : List MP) (R : List RT) (hF : Fit R) : ∃ k, maquettelaw13_LowerClasses.f k a0 ls mp ns nt ws M R = some true := by
  obtain ⟨K, hK⟩ := Cfg.config_at h
  have hend : ∃ k, maquettelaw13_LowerClasses.l0 k [(⟨Cfg.cmaps mp, Cfg.crouts a0 ls mp ns nt ws⟩ : CF), (⟨M, R⟩ : CF)] (2 : Int) ((2 : Nat) : Int) = some true := ⟨1, by rw [maquettelaw13_LowerClasses.l0, if_neg (by omega)]⟩
  have h1 := l0_one _ 2 1 M R hF rfl rfl (by omega) hend
  obtain ⟨k, h0⟩ := l0_one _ 2 0 _ _ (config_fit a0 ls mp ns nt ws h.a) rfl rfl (by omega) h1
  refine ⟨K + k, ?_⟩
  unfold maquettelaw13_LowerClasses.f
  rw [awake_ok, Option.bind_some, if_pos rfl, hK _ (by omega), Option.bind_some, Option.bind_some]
  exact up (F := fun k => maquettelaw13_LowerClasses.l0 k [(⟨Cfg.cmaps mp, Cfg.crouts a0 ls mp ns nt ws⟩ : CF), (⟨M, R⟩ : CF)] (2 : Int) 0) (fun k => (maquettelaw13_LowerClasses.mono_l k).1 _ _ _) (by omega : k ≤ K + k) h0
end Go.Proofs.Ytpalofndmbmiiaa.LowC
