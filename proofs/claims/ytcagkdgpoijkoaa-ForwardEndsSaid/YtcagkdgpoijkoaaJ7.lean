/- Texts of this work, joined: Cfg, PLmx9, PLmx11, PLmx10, LiC. -/
import Derived.Test.YtcagkdgpoijkoaaPLmx8
import Derived.Test.YtcagkdgpoijkoaaJ5
import Derived.Test.YtcagkdgpoijkoaaJ0
section
namespace Go.Proofs.Ytcagkdgpoijkoaa.Cfg
open Go.RowKit Go.Proofs.Ytcagkdgpoijkoaa.PLm Go.Proofs.YtcagkdgpoijkoaaW.PrintWords Go.Proofs.YtcagkdgpoijkoaaW.PrintLast Go.Proofs.YtcagkdgpoijkoaaW.PrintMore
set_option linter.unusedVariables false
set_option linter.unusedSimpArgs false
abbrev SP := S35
abbrev SL := S95
abbrev SS := S97
abbrev SR := S91
abbrev SC := S116
abbrev SM := S86
abbrev SU := S114
theorem leO_up {α : Type} {F : Nat → Option α} (h : ∀ k, LeO (F k) (F (k + 1))) {k k' : Nat} (hk : k ≤ k') {r : α} (e : F k = some r) : F k' = some r := by
  induction hk with
  | refl => exact e
  | step _ ih => exact h _ _ ih
theorem w64n {a : Nat} (h : a < 4611686018427387904) : wrap64 (a : Int) = (a : Int) := by unfold wrap64; omega
theorem w1n {i : Nat} (h : i < 9223372036854775807) : wrap64 ((i : Int) + 1) = ((i + 1 : Nat) : Int) := by unfold wrap64; omega
theorem tm (a b : Nat) : Int.tmod (a : Int) (b : Int) = ((a % b : Nat) : Int) := rfl
theorem mnn (a b : Nat) : mn (a : Int) (b : Int) = ((min a b : Nat) : Int) := by unfold mn; split <;> omega
theorem mxn (a b : Nat) : mx (a : Int) (b : Int) = ((max a b : Nat) : Int) := by unfold mx; split <;> omega
theorem getD_at {α : Type} {l : List α} {i : Nat} {x z : α} (h : l[i]? = some x) : l.getD ((i : Int).toNat) z = x := by simp [List.getD, h]
theorem drop_at {α : Type} {l : List α} {i : Nat} (h : i < l.length) : ∃ x, l[i]? = some x ∧ l.drop i = x :: l.drop (i + 1) := ⟨l[i], List.getElem?_eq_getElem h, List.drop_eq_getElem_cons h⟩
def make (n : Nat) : SP := match maquettelaw05_Make.f 36 (n : Int) with
  | some p => ⟨p.1, p.2⟩
  | none => z35
def makeOk (n : Nat) : Bool := match maquettelaw05_Make.f 36 (n : Int) with
  | some p => decide (0 ≤ p.1 ∧ p.1 < 4294967296 ∧ 0 ≤ p.2 ∧ p.2 ≤ 32)
  | none => false
set_option maxRecDepth 100000 in
theorem make_all : ((List.range 256).all makeOk) = true := by decide +kernel
theorem make_at {n : Nat} (h1 : n ≤ 255) : (∀ k, 36 ≤ k → maquettelaw05_Make.f k (n : Int) = some ((make n).f0, (make n).f1)) ∧ (0 ≤ (make n).f0 ∧ (make n).f0 < 4294967296) ∧ (0 ≤ (make n).f1 ∧ (make n).f1 ≤ 32) := by
  have h := List.all_eq_true.1 make_all n (List.mem_range.2 (by omega))
  unfold makeOk at h
  unfold make
  cases e : maquettelaw05_Make.f 36 (n : Int) with
  | none => rw [e] at h; cases h
  | some p =>
    rw [e] at h
    have := of_decide_eq_true h
    exact ⟨fun k hk => leO_up (fun k => maquettelaw05_Make.mono _ k) hk e, ⟨this.1, this.2.1⟩, this.2.2⟩
def okU (r : SU) : Prop := (0 ≤ r.f0 ∧ r.f0 ≤ 255) ∧ (0 ≤ r.f1 ∧ r.f1 ≤ 255) ∧ (0 ≤ r.f2 ∧ r.f2 ≤ 255) ∧ (0 ≤ r.f3 ∧ r.f3 ≤ 255) ∧ (0 ≤ r.f4 ∧ r.f4 ≤ 255) ∧ (0 ≤ r.f5 ∧ r.f5 ≤ 255)
def ruleC (r : SU) : SC := ⟨Int.tmod r.f0 3 == 0, if (Int.tmod r.f0 3 == 0) = true then ⟨0, 0⟩ else make r.f0.toNat, if r.f1 > 100 then 0 else Int.tmod r.f1 16, if r.f2 > 60 then 0 else Int.tmod r.f2 16, Int.tmod r.f3 4 == 3, Int.tdiv r.f3 16 % 256, Int.tdiv r.f4 16 % 256, wrap64 (Int.tmod r.f4 4), if r.f5 < 200 then 0 else wrap64 r.f5⟩
theorem rule_at (r : SU) (h : okU r) {k : Nat} (hk : 40 ≤ k) : maquettelaw07_Rule_Clause.f k r.f0 r.f1 r.f2 r.f3 r.f4 r.f5 = some ((ruleC r).f0, (ruleC r).f1.f0, (ruleC r).f1.f1, (ruleC r).f2, (ruleC r).f3, (ruleC r).f4, (ruleC r).f5, (ruleC r).f6, (ruleC r).f7, (ruleC r).f8) := by
  obtain ⟨k, rfl⟩ : ∃ q, k = q + 2 := ⟨k - 2, by omega⟩
  have hm := (make_at (n := r.f0.toNat) (by have := h.1; omega)).1 k (by omega)
  rw [Int.toNat_of_nonneg h.1.1] at hm
  have J1 : ∀ (b : Bool) (w o : Int) (d : Bool) (s c m p : Int), maquettelaw07_Rule_Clause.j1 (k + 1) r.f0 r.f1 r.f2 r.f3 r.f4 r.f5 b 0 0 w o d s c m p = some (b, (if b = true then (⟨0, 0⟩ : SP) else make r.f0.toNat).f0, (if b = true then (⟨0, 0⟩ : SP) else make r.f0.toNat).f1, w, o, d, s, c, m, if r.f5 < 200 then 0 else p) := by
    intro b w o d s c m p
    rw [maquettelaw07_Rule_Clause.j1]
    by_cases q : r.f5 < 200
    · rw [if_pos q, if_pos q]
      cases b with
      | true => rw [if_pos rfl, if_pos rfl]
      | false => rw [if_neg (by simp), if_neg (by simp), hm, Option.bind_some]
    · rw [if_neg q, if_neg q]
      cases b with
      | true => rw [if_pos rfl, if_pos rfl]
      | false => rw [if_neg (by simp), if_neg (by simp), hm, Option.bind_some]
  unfold maquettelaw07_Rule_Clause.f ruleC
  by_cases p : r.f1 > 100
  · rw [if_pos p, if_pos p, maquettelaw07_Rule_Clause.j0]
    by_cases q : r.f2 > 60
    · rw [if_pos q, if_pos q, J1]
    · rw [if_neg q, if_neg q, J1]
  · rw [if_neg p, if_neg p, maquettelaw07_Rule_Clause.j0]
    by_cases q : r.f2 > 60
    · rw [if_pos q, if_pos q, J1]
    · rw [if_neg q, if_neg q, J1]
def clausesOf (rs : List SU) : List SC := (rs.take 5).map ruleC
theorem clauses_l (rs : List SU) (h : ∀ r ∈ rs, okU r) (hn : rs.length ≤ 9223372036854775807) : ∀ d i (acc : List SC), i + d = rs.length → acc.length ≤ i → ∃ k, maquettelaw07_Clauses.l0 k acc rs (rs.length : Int) (i : Int) = some (acc ++ ((rs.drop i).take (5 - i)).map ruleC) := by
  intro d
  induction d with
  | zero =>
    intro i acc hi ha
    obtain rfl : i = rs.length := by omega
    refine ⟨1, ?_⟩
    rw [maquettelaw07_Clauses.l0, if_neg (by omega)]
    simp
  | succ d ih =>
    intro i acc hi ha
    obtain ⟨p, hp, hd⟩ := drop_at (l := rs) (i := i) (by omega)
    by_cases h5 : i < 5
    · obtain ⟨k, hk⟩ := ih (i + 1) (acc ++ [ruleC p]) (by omega) (by simp; omega)
      refine ⟨k + 40 + 1, ?_⟩
      rw [maquettelaw07_Clauses.l0, if_pos (by omega), if_pos (by omega), if_pos (by omega), if_pos (by omega)]
      simp only [rd_T114, getD_at hp]
      rw [rule_at p (h p (List.mem_of_getElem? hp)) (by omega), Option.bind_some, if_pos (by omega), w1n (by omega)]
      refine (leO_up (F := fun k => maquettelaw07_Clauses.l0 k _ _ _ _) (fun k => maquettelaw07_Clauses.mono_l k _ _ _ _) (show k ≤ k + 40 by omega) hk).trans ?_
      rw [hd, show 5 - i = (5 - (i + 1)) + 1 by omega, List.take_succ_cons]
      simp
    · obtain ⟨k, hk⟩ := ih (i + 1) acc (by omega) (by omega)
      refine ⟨k + 1, ?_⟩
      rw [maquettelaw07_Clauses.l0, if_pos (by omega), if_pos (by omega), if_pos (by omega), if_neg (by omega), w1n (by omega)]
      refine hk.trans ?_
      rw [show 5 - i = 0 by omega, show 5 - (i + 1) = 0 by omega]
      simp
theorem clauses_at (rs : List SU) (h : ∀ r ∈ rs, okU r) (hn : rs.length ≤ 9223372036854775807) : ∃ k, maquettelaw07_Clauses.f k rs = some (clausesOf rs) := by
  obtain ⟨k, hk⟩ := clauses_l rs h hn rs.length 0 [] (by omega) (by simp)
  exact ⟨k, hk⟩
def nm (k : Nat) : ByteArray := ⟨#[114, UInt8.ofNat (97 + k)]⟩
def mname (k : Nat) : ByteArray := ⟨#[109, UInt8.ofNat (97 + k)]⟩
theorem name_all : ∀ k : Fin 8, maquettelaw07_Name.f ((k.val : Nat) : Int) = some (nm k.val) := by decide +kernel
theorem name_at {k : Nat} (h : k < 8) : maquettelaw07_Name.f (k : Int) = some (nm k) := name_all ⟨k, h⟩
def num (l : List Int) (k : Nat) : Nat := (l.getD (k % l.length) 0).toNat
def okB (l : List Int) : Prop := ∀ x ∈ l, 0 ≤ x ∧ x ≤ 255
theorem num_le {l : List Int} (h : okB l) (k : Nat) : num l k ≤ 255 := by
  unfold num
  cases e : l[k % l.length]? with
  | none => simp [List.getD, e]
  | some x =>
    have := h x (List.mem_of_getElem? e)
    simp only [List.getD, e, Option.getD_some]
    omega
theorem number_at {l : List Int} (h : okB l) (k : Nat) : maquettelaw07_number.f l (k : Int) = some ((num l k : Nat) : Int) := by
  unfold maquettelaw07_number.f num
  by_cases h0 : l.length = 0
  · obtain rfl : l = [] := List.length_eq_zero_iff.1 h0
    rfl
  · have hlt := Nat.mod_lt k (show 0 < l.length by omega)
    rw [if_neg (by omega), tm, if_pos (by omega), if_pos (by omega)]
    have e : l[k % l.length]? = some l[k % l.length] := List.getElem?_eq_getElem hlt
    have hb := h _ (List.getElem_mem hlt)
    simp only [rd, Int.toNat_natCast, List.getD, e, Option.getD_some]
    congr 1
    unfold wrap64
    omega
def mpd (q n : Nat) : ByteArray := if min q 4 = 0 then ⟨#[]⟩ else if 0 < n % 3 then ⟨#[]⟩ else mname (n / 3 % min q 4)
theorem enc_all : ∀ k : Fin 4, Utf8.encode (wrap32 (wrap64 (97 + ((k.val : Nat) : Int)))) = ⟨#[UInt8.ofNat (97 + k.val)]⟩ := by decide +kernel
theorem enc_at {k : Nat} (h : k < 4) : Utf8.encode (wrap32 (wrap64 (97 + (k : Int)))) = ⟨#[UInt8.ofNat (97 + k)]⟩ := enc_all ⟨k, h⟩
theorem mname_app (k : Nat) : (⟨#[109]⟩ : ByteArray) ++ ⟨#[UInt8.ofNat (97 + k)]⟩ = mname k := rfl
theorem mapped_at (a0 : Int) (l1 : List Int) (l2 : List (List SU)) (l3 l4 l5 : List Int) (n : Nat) (hn : n < 100000) : maquettelaw07_Shape_mapped.f a0 l1 l2 l3 l4 l5 (n : Int) = some (mpd l2.length n) := by
  unfold maquettelaw07_Shape_mapped.f mpd
  have e4 : mn (l2.length : Int) 4 = ((min l2.length 4 : Nat) : Int) := mnn l2.length 4
  rw [e4]
  by_cases h0 : min l2.length 4 = 0
  · rw [if_pos (by omega), if_pos h0]
  · rw [if_neg (by omega), if_neg h0]
    have t3 : Int.tmod (n : Int) 3 = ((n % 3 : Nat) : Int) := rfl
    have d3 : Int.tdiv (n : Int) 3 = ((n / 3 : Nat) : Int) := rfl
    rw [t3, d3, w64n (by omega), tm]
    by_cases h3 : 0 < n % 3
    · rw [if_pos (by omega), if_pos h3]
    · rw [if_neg (by omega), if_neg h3]
      have hlt := Nat.mod_lt (n / 3) (show 0 < min l2.length 4 by omega)
      rw [enc_at (by omega)]
      rw [if_pos (by show 1 + 1 ≤ _; omega), mname_app]
def mapsFrom : Nat → List (List SU) → List SM
  | _, [] => []
  | i, rs :: r => if i < 4 then ⟨mname i, clausesOf rs, 0⟩ :: mapsFrom (i + 1) r else mapsFrom (i + 1) r
def isL (ls : List Int) (n k j : Nat) : Bool := !(j == k) && (decide (0 < num ls (min j k * n + max j k) % 3) || (j == k + 1 || k == j + 1))
def lnk (ls ns : List Int) (q n k j : Nat) : SL := ⟨nm j, ((1 + num ls (min j k * n + max j k) / 3 % 3 : Nat) : Int), mpd q (num ns (k * n + j)), mpd q (num ns (k * n + j) / 12), 0⟩
def lnksFrom (ls ns : List Int) (q n k j d : Nat) : List SL := ((List.range' j d).filter (isL ls n k)).map (lnk ls ns q n k)
def lnks (ls ns : List Int) (q n k : Nat) : List SL := lnksFrom ls ns q n k 0 n
def netsOf (nt : List Int) (k : Nat) : List SP := if k = 0 ∨ num nt k % 4 = 0 then [make (num nt k)] else []
def statsOf (ws : List Int) (l : List SL) (k : Nat) : List SS := if num ws k % 5 = 4 ∧ 0 < l.length then [⟨make (num ws k), (l.getD (num ws k / 8 % l.length) z95).f0, 0⟩] else []
def rout (ls : List Int) (q : Nat) (ns nt ws : List Int) (n k : Nat) : SR := ⟨nm k, netsOf nt k, lnks ls ns q n k, statsOf ws (lnks ls ns q n k) k, 0⟩
section
variable (a0 : Int) (ls : List Int) (mp : List (List SU)) (ns nt ws : List Int) (n : Nat) (hn : n < 8) (hls : okB ls) (hns : okB ns) (hnt : okB nt) (hws : okB ws)
theorem up1 {k k' : Nat} (hk : k ≤ k') {r} {a b c d e f g h i j} : maquettelaw07_Shape_Config.l1 k a b c d e f g h i j = some r → maquettelaw07_Shape_Config.l1 k' a b c d e f g h i j = some r := leO_up (F := fun k => maquettelaw07_Shape_Config.l1 k a b c d e f g h i j) (fun k => (maquettelaw07_Shape_Config.mono_l k).2.1 _ _ _ _ _ _ _ _ _ _) hk
theorem up0 {k k' : Nat} (hk : k ≤ k') {r} {a b c d e f g h i j} : maquettelaw07_Shape_Config.l0 k a b c d e f g h i j = some r → maquettelaw07_Shape_Config.l0 k' a b c d e f g h i j = some r := leO_up (F := fun k => maquettelaw07_Shape_Config.l0 k a b c d e f g h i j) (fun k => (maquettelaw07_Shape_Config.mono_l k).1 _ _ _ _ _ _ _ _ _ _) hk
theorem up2 {k k' : Nat} (hk : k ≤ k') {r} {a b c d e f g h i j l m o p q} : maquettelaw07_Shape_Config.l2 k a b c d e f g h i j l m o p q = some r → maquettelaw07_Shape_Config.l2 k' a b c d e f g h i j l m o p q = some r := leO_up (F := fun k => maquettelaw07_Shape_Config.l2 k a b c d e f g h i j l m o p q) (fun k => (maquettelaw07_Shape_Config.mono_l k).2.2.2.2.1 _ _ _ _ _ _ _ _ _ _ _ _ _ _ _) hk
include hn in
theorem idx (j κ : Nat) (hj : j < 8) (hκ : κ < 8) : wrap64 ((wrap64 ((mn (j : Int) (κ : Int)) * (n : Int))) + (mx (j : Int) (κ : Int))) = ((min j κ * n + max j κ : Nat) : Int) := by
  have hb : min j κ * n ≤ 7 * 7 := Nat.mul_le_mul (by omega) (by omega)
  rw [mnn, mxn, ← Int.natCast_mul, w64n (by omega), ← Int.natCast_add, w64n (by omega)]
set_option maxHeartbeats 4000000 in
theorem j5_at (κ : Nat) (hκ : κ < 8) (j : Nat) (hj : j < 8) (x11 : Nat) (b : Bool) (M : List SM) (racc : List SR) (rn : ByteArray) (rnets : List SP) (acc : List SL) (ha : acc.length ≤ j) (at_ : Int) (r)
    (hn : n < 8) (hls : okB ls) (hns : okB ns)
    (h : ∃ k, maquettelaw07_Shape_Config.l2 k (n : Int) (κ : Int) ((j + 1 : Nat) : Int) a0 ls mp ns nt ws M racc rn rnets (if b = true then acc ++ [⟨nm j, ((1 + num ls x11 / 3 % 3 : Nat) : Int), mpd mp.length (num ns (κ * n + j)), mpd mp.length (num ns (κ * n + j) / 12), 0⟩] else acc) at_ = some r) :
    ∃ k, maquettelaw07_Shape_Config.j5 k (n : Int) (κ : Int) (j : Int) (x11 : Int) b a0 ls mp ns nt ws M racc rn rnets acc at_ = some r := by
  obtain ⟨k, hk⟩ := h
  refine ⟨k + 1, ?_⟩
  rw [maquettelaw07_Shape_Config.j5]
  cases b with
  | false => rw [if_neg (by simp), w1n (by omega)]; exact hk
  | true =>
    rewrite [if_pos rfl] at hk ⊢
    have hb : κ * n ≤ 7 * 7 := Nat.mul_le_mul (by omega) (by omega)
    have ex : wrap64 (wrap64 ((κ : Int) * (n : Int)) + (j : Int)) = ((κ * n + j : Nat) : Int) := by
      rw [← Int.natCast_mul, w64n (a := κ * n) (by omega), ← Int.natCast_add, w64n (a := κ * n + j) (by omega)]
    have n1 := number_at hns (κ * n + j)
    have q1 := num_le hns (κ * n + j)
    have n2 := number_at hls x11
    have q2 := num_le hls x11
    rewrite [ex]
    clear ex hb
    generalize κ * n + j = x at n1 q1 hk ⊢
    rewrite [n1]
    clear n1
    generalize num ns x = v1 at q1 hk ⊢
    rewrite [Option.bind_some, name_at hj, Option.bind_some, n2]
    clear n2
    generalize num ls x11 = v2 at q2 hk ⊢
    have m1 := mapped_at a0 ls mp ns nt ws v1 (by omega)
    have m2 := mapped_at a0 ls mp ns nt ws (v1 / 12) (by omega)
    have e12 : wrap64 (Int.tdiv (v1 : Int) 12) = ((v1 / 12 : Nat) : Int) := w64n (a := v1 / 12) (by omega)
    have e3 : wrap64 (1 + Int.tmod (wrap64 (Int.tdiv (v2 : Int) 3)) 3) = ((1 + v2 / 3 % 3 : Nat) : Int) := by
      have h3 : wrap64 (Int.tdiv (v2 : Int) 3) = ((v2 / 3 : Nat) : Int) := w64n (a := v2 / 3) (by omega)
      rw [h3]
      exact w64n (a := 1 + v2 / 3 % 3) (by omega)
    rewrite [Option.bind_some, m1, Option.bind_some, e12, m2, Option.bind_some, if_pos (by omega), w1n (by omega), e3]
    exact hk
set_option maxHeartbeats 4000000 in
theorem l2_at (κ : Nat) (hκ : κ < n) (M : List SM) (racc : List SR) (hr : racc.length ≤ κ) (rn : ByteArray) (rnets : List SP) (at_ : Int) (r) (hn : n < 8) (hls : okB ls) (hns : okB ns) (hws : okB ws) : ∀ d j (acc : List SL), j + d = n → acc.length ≤ j →
    (∃ k, maquettelaw07_Shape_Config.l1 k (n : Int) ((κ + 1 : Nat) : Int) a0 ls mp ns nt ws M (racc ++ [⟨rn, rnets, acc ++ lnksFrom ls ns mp.length n κ j d, statsOf ws (acc ++ lnksFrom ls ns mp.length n κ j d) κ, at_⟩]) = some r) →
    ∃ k, maquettelaw07_Shape_Config.l2 k (n : Int) (κ : Int) (j : Int) a0 ls mp ns nt ws M racc rn rnets acc at_ = some r := by
  intro d
  induction d with
  | zero =>
    intro j acc hj ha ⟨k, hk⟩
    obtain rfl : j = n := by omega
    simp only [lnksFrom, List.range'_zero, List.filter_nil, List.map_nil, List.append_nil] at hk
    refine ⟨k + 36 + 1, ?_⟩
    have q1 := num_le hws κ
    have t5 : Int.tmod ((num ws κ : Nat) : Int) 5 = ((num ws κ % 5 : Nat) : Int) := rfl
    have d8 : Int.tdiv ((num ws κ : Nat) : Int) 8 = ((num ws κ / 8 : Nat) : Int) := rfl
    rw [maquettelaw07_Shape_Config.l2, if_neg (by omega), number_at hws, Option.bind_some, t5]
    unfold statsOf at hk
    by_cases h5 : num ws κ % 5 = 4
    · rw [if_pos (by omega)]
      by_cases hl : 0 < acc.length
      · rw [if_pos ⟨h5, hl⟩] at hk
        have hm := (make_at q1).1 (k + 36) (by omega)
        have e : ((num ws κ : Nat) : Int) % 256 = ((num ws κ : Nat) : Int) := by omega
        have hlt := Nat.mod_lt (num ws κ / 8) hl
        rw [if_pos (by omega), e, hm, Option.bind_some, if_neg (by omega), d8, w64n (a := num ws κ / 8) (by omega), tm, if_pos (by omega), if_pos (by omega), if_pos (by simp), if_pos (by omega), w1n (by omega)]
        simp only [rd_T95, Int.toNat_natCast]
        exact up1 (by omega) hk
      · rw [if_neg (fun h => hl h.2)] at hk
        rw [if_neg (by omega), if_pos (by omega), w1n (by omega)]
        exact up1 (by omega) hk
    · rw [if_neg (fun h => h5 h.1)] at hk
      rw [if_neg (by omega), if_pos (by omega), w1n (by omega)]
      exact up1 (by omega) hk
  | succ d ih =>
    intro j acc hj ha h
    have hx := idx n hn j κ (by omega) (by omega)
    have hstep : lnksFrom ls ns mp.length n κ j (d + 1) = (if isL ls n κ j = true then [lnk ls ns mp.length n κ j] else []) ++ lnksFrom ls ns mp.length n κ (j + 1) d := by
      unfold lnksFrom
      rw [List.range'_succ, List.filter_cons]
      split <;> simp
    have h5 : ∃ k, maquettelaw07_Shape_Config.j5 k (n : Int) (κ : Int) (j : Int) ((min j κ * n + max j κ : Nat) : Int) (isL ls n κ j) a0 ls mp ns nt ws M racc rn rnets acc at_ = some r := by
      refine j5_at a0 ls mp ns nt ws n κ (by omega) j (by omega) _ _ M racc rn rnets acc ha at_ r hn hls hns ?_
      refine ih (j + 1) (if isL ls n κ j = true then acc ++ [⟨nm j, ((1 + num ls (min j κ * n + max j κ) / 3 % 3 : Nat) : Int), mpd mp.length (num ns (κ * n + j)), mpd mp.length (num ns (κ * n + j) / 12), 0⟩] else acc) (by omega) (by
        split
        · rw [List.length_append, List.length_singleton]; omega
        · omega) ?_
      refine h.imp fun k hk => ?_
      rw [hstep] at hk
      by_cases hi : isL ls n κ j = true
      · rw [if_pos hi] at hk ⊢
        rw [← hk]
        simp only [List.append_assoc, lnk]
      · rw [if_neg hi] at hk ⊢
        rw [← hk]
        simp only [List.nil_append]
    obtain ⟨k, hk⟩ := h5
    refine ⟨k + 1, ?_⟩
    have q2 := num_le hls (min j κ * n + max j κ)
    have t3 : Int.tmod ((num ls (min j κ * n + max j κ) : Nat) : Int) 3 = ((num ls (min j κ * n + max j κ) % 3 : Nat) : Int) := rfl
    rw [maquettelaw07_Shape_Config.l2, if_pos (by omega), hx]
    by_cases e : j = κ
    · rw [if_pos (by omega)]
      have hi : isL ls n κ j = false := by simp [isL, e]
      rw [hi] at hk
      exact hk
    · rw [if_neg (by omega), number_at hls, Option.bind_some, t3]
      have e0 : (j == κ) = false := by simpa using e
      by_cases h3 : 0 < num ls (min j κ * n + max j κ) % 3
      · rw [if_pos (by omega)]
        have hi : isL ls n κ j = true := by simp [isL, e0, h3]
        rw [hi] at hk
        exact hk
      · rw [if_neg (by omega), w1n (by omega)]
        by_cases h1 : j = κ + 1
        · rw [if_pos (by omega)]
          have hi : isL ls n κ j = true := by simp [isL, e0, h1]
          rw [hi] at hk
          exact hk
        · rw [if_neg (by omega), w1n (by omega)]
          have hi : isL ls n κ j = ((κ : Int) == ((j + 1 : Nat) : Int)) := by
            have h1' : (j == κ + 1) = false := by simpa using h1
            simp only [isL, e0, h1', decide_eq_false h3, Bool.not_false, Bool.true_and, Bool.false_or]
            by_cases h2 : κ = j + 1
            · subst h2; simp
            · have : ¬ ((κ : Int) = ((j + 1 : Nat) : Int)) := by omega
              rw [beq_eq_false_iff_ne.2 h2, beq_eq_false_iff_ne.2 this]
          rw [hi] at hk
          exact hk
set_option maxHeartbeats 4000000 in
theorem l1_at (M : List SM) (hn : n < 8) (hls : okB ls) (hns : okB ns) (hnt : okB nt) (hws : okB ws) : ∀ d κ (racc : List SR), κ + d = n → racc.length ≤ κ →
    ∃ k, maquettelaw07_Shape_Config.l1 k (n : Int) (κ : Int) a0 ls mp ns nt ws M racc = some (M, racc ++ (List.range' κ d).map (rout ls mp.length ns nt ws n)) := by
  intro d
  induction d with
  | zero =>
    intro κ racc hκ hr
    refine ⟨1, ?_⟩
    rw [maquettelaw07_Shape_Config.l1, if_neg (by omega)]
    simp
  | succ d ih =>
    intro κ racc hκ hr
    have hih := ih (κ + 1) (racc ++ [rout ls mp.length ns nt ws n κ]) (by omega) (by simp; omega)
    have h2 := l2_at a0 ls mp ns nt ws n κ (by omega) M racc hr (nm κ) (netsOf nt κ) 0 (M, racc ++ (List.range' κ (d + 1)).map (rout ls mp.length ns nt ws n)) hn hls hns hws n 0 [] (by omega) (by simp) (by
      refine hih.imp fun k hk => ?_
      rw [List.range'_succ, List.map_cons]
      simp only [List.nil_append]
      refine Eq.trans hk ?_
      simp)
    rw [show ((0 : Nat) : Int) = 0 from rfl] at h2
    obtain ⟨k, hk⟩ := h2
    have q1 := num_le hnt κ
    have hm := (make_at q1).1 (k + 36) (by omega)
    have e : ((num nt κ : Nat) : Int) % 256 = ((num nt κ : Nat) : Int) := by omega
    have t4 : Int.tmod ((num nt κ : Nat) : Int) 4 = ((num nt κ % 4 : Nat) : Int) := rfl
    have J : ∀ b : Bool, (b = true ↔ (κ = 0 ∨ num nt κ % 4 = 0)) → maquettelaw07_Shape_Config.j2 (k + 36 + 2) (n : Int) (κ : Int) ((num nt κ : Nat) : Int) b a0 ls mp ns nt ws M racc (nm κ) 0 = some (M, racc ++ (List.range' κ (d + 1)).map (rout ls mp.length ns nt ws n)) := by
      intro b hb
      have h36 := up2 (show k ≤ k + 36 by omega) hk
      rw [maquettelaw07_Shape_Config.j2]
      cases b with
      | true =>
        have hm' := leO_up (fun k => maquettelaw05_Make.mono _ k) (show k + 36 ≤ k + 36 + 1 by omega) hm
        rw [if_pos rfl, e, hm', Option.bind_some, if_pos (by simp), maquettelaw07_Shape_Config.j3]
        unfold netsOf at h36
        rw [if_pos (hb.1 rfl)] at h36
        exact h36
      | false =>
        rw [if_neg (by simp), maquettelaw07_Shape_Config.j3]
        unfold netsOf at h36
        rw [if_neg (fun h => by have := hb.2 h; cases this)] at h36
        exact h36
    refine ⟨k + 36 + 2 + 1, ?_⟩
    rw [maquettelaw07_Shape_Config.l1, if_pos (by omega), name_at (by omega), Option.bind_some, number_at hnt, Option.bind_some]
    by_cases h0 : κ = 0
    · rw [if_pos (by omega)]
      exact J true ⟨fun _ => Or.inl h0, fun _ => rfl⟩
    · rw [if_neg (by omega), t4]
      refine J _ ⟨fun h => Or.inr ?_, fun h => ?_⟩
      · have := eq_of_beq h; omega
      · rcases h with h | h
        · exact absurd h h0
        · rw [h]; rfl
set_option maxHeartbeats 4000000 in
theorem l0_at (hm : ∀ rs ∈ mp, ∀ r ∈ rs, okU r) (hz : mp.length ≤ 9223372036854775807) (hz2 : ∀ rs ∈ mp, rs.length ≤ 9223372036854775807) (hn : a0 % 8 = n) (ha0 : 0 ≤ a0 ∧ a0 ≤ 255) (r) : ∀ d i (acc : List SM), i + d = mp.length → acc.length ≤ i →
    (∃ k, maquettelaw07_Shape_Config.l1 k (n : Int) 0 a0 ls mp ns nt ws (acc ++ mapsFrom i (mp.drop i)) [] = some r) →
    ∃ k, maquettelaw07_Shape_Config.l0 k mp (mp.length : Int) (i : Int) a0 ls mp ns nt ws acc = some r := by
  intro d
  induction d with
  | zero =>
    intro i acc hi ha ⟨k, hk⟩
    obtain rfl : i = mp.length := by omega
    rw [List.drop_length] at hk
    refine ⟨k + 1, ?_⟩
    have t8 : wrap64 (Int.tmod a0 8) = (n : Int) := by rw [Int.tmod_eq_emod_of_nonneg ha0.1, hn]; unfold wrap64; omega
    rw [maquettelaw07_Shape_Config.l0, if_neg (by omega), t8]
    simpa [mapsFrom] using hk
  | succ d ih =>
    intro i acc hi ha h
    obtain ⟨p, hp, hd⟩ := drop_at (l := mp) (i := i) (by omega)
    have hpm := List.mem_of_getElem? hp
    rw [hd] at h
    by_cases h4 : i < 4
    · obtain ⟨c, hc⟩ := clauses_at p (hm p hpm) (hz2 p hpm)
      have hih := ih (i + 1) (acc ++ [⟨mname i, clausesOf p, 0⟩]) (by omega) (by simp; omega) (by
        refine h.imp fun k hk => ?_
        rw [mapsFrom, if_pos h4] at hk
        rw [← hk]
        simp)
      obtain ⟨k, hk⟩ := hih
      refine ⟨k + c + 1, ?_⟩
      rw [maquettelaw07_Shape_Config.l0, if_pos (by omega), if_pos (by omega), if_pos (by omega), if_pos (by omega), enc_at h4, if_pos (by show 1 + 1 ≤ _; omega)]
      simp only [rd_L7, getD_at hp]
      rw [leO_up (fun k => maquettelaw07_Clauses.mono _ k) (show c ≤ k + c by omega) hc, Option.bind_some, if_pos (by omega), w1n (by omega), mname_app]
      exact up0 (by omega) hk
    · have hih := ih (i + 1) acc (by omega) (by omega) (by
        refine h.imp fun k hk => ?_
        rw [mapsFrom, if_neg h4] at hk
        exact hk)
      obtain ⟨k, hk⟩ := hih
      refine ⟨k + 1, ?_⟩
      rw [maquettelaw07_Shape_Config.l0, if_pos (by omega), if_pos (by omega), if_pos (by omega), if_neg (by omega), w1n (by omega)]
      exact hk
end
structure Shape (a0 : Int) (ls : List Int) (mp : List (List SU)) (ns nt ws : List Int) : Prop where
  a : 0 ≤ a0 ∧ a0 ≤ 255
  l : okB ls
  m : ∀ rs ∈ mp, ∀ r ∈ rs, okU r
  s : okB ns
  t : okB nt
  w : okB ws
  zm : mp.length ≤ 9223372036854775807
  zr : ∀ rs ∈ mp, rs.length ≤ 9223372036854775807
def cmaps (mp : List (List SU)) : List SM := mapsFrom 0 mp
def crouts (a0 : Int) (ls : List Int) (mp : List (List SU)) (ns nt ws : List Int) : List SR := (List.range (a0 % 8).toNat).map (rout ls mp.length ns nt ws (a0 % 8).toNat)
theorem config_at {a0 : Int} {ls : List Int} {mp : List (List SU)} {ns nt ws : List Int} (h : Shape a0 ls mp ns nt ws) : ∃ K, ∀ k, K ≤ k → maquettelaw07_Shape_Config.f k a0 ls mp ns nt ws = some (cmaps mp, crouts a0 ls mp ns nt ws) := by
  obtain ⟨n, hn⟩ : ∃ n : Nat, a0 % 8 = n := ⟨(a0 % 8).toNat, by have := h.a; omega⟩
  have hn8 : n < 8 := by omega
  have h1 := l1_at a0 ls mp ns nt ws n (cmaps mp) hn8 h.l h.s h.t h.w n 0 [] (by omega) (by simp)
  rw [show ((0 : Nat) : Int) = 0 from rfl] at h1
  obtain ⟨k, hk⟩ := l0_at a0 ls mp ns nt ws n h.m h.zm h.zr hn h.a _ mp.length 0 [] (by omega) (by simp) h1
  refine ⟨k, fun k' hk' => ?_⟩
  rw [show ((0 : Nat) : Int) = 0 from rfl] at hk
  unfold maquettelaw07_Shape_Config.f
  refine (up0 hk' hk).trans ?_
  unfold crouts
  rw [hn, Int.toNat_natCast, List.range_eq_range']
  simp
end Go.Proofs.Ytcagkdgpoijkoaa.Cfg
end
section
namespace Go.Proofs.Ytcagkdgpoijkoaa.PLm
open Go.RowKit Go.Proofs.YtcagkdgpoijkoaaW.PrintWords Go.Proofs.YtcagkdgpoijkoaaW.PrintLast Go.Proofs.YtcagkdgpoijkoaaW.PrintMore
attribute [local go_sem] max2_int min2_int max_two min_two max_three min_three max_four min_four
set_option linter.unusedVariables false
set_option linter.unusedSimpArgs false
def toCl (x : S116) : Go.Proofs.Ytcagkdgpoijkoaa.Mq.Cl := ⟨x.f0, ⟨x.f1.f0, x.f1.f1⟩, x.f2, x.f3, x.f4, x.f5, x.f6, x.f7, x.f8⟩
theorem K_toCl {w : World} {S : Nat → Prop} (x : S116) (cs : List Value) (h : k116.K w x cs) : Go.Proofs.Ytcagkdgpoijkoaa.Mq.clR.K w S (toCl x) cs := by have h_ := k116_open h; subst h_; rfl
def toEd (x : S51) : Go.Proofs.Ytcagkdgpoijkoaa.Mq.Ed := ⟨x.f0, x.f1, x.f2.map toCl, x.f3.map toCl⟩
theorem K_toEd {w : World} (x : S51) (cs : List Value) (h : k51.K w x cs) : Go.Proofs.Ytcagkdgpoijkoaa.Mq.edR.K w (· < w.heap.size) (toEd x) cs := by
  obtain ⟨A2, c2, A3, c3, rfl, l2, h2, l3, h3⟩ := k51_open h; exact ⟨_, _, rfl, rfl, _, _, rfl, rfl, _, _, rfl, ⟨A2, c2, by rw [show (toEd x).exp.length = x.f2.length from List.length_map _], by rw [show (toEd x).exp.length = x.f2.length from List.length_map _]; exact l2, Go.Proofs.Ytcagkdgpoijkoaa.Bridge.row_of_C toCl rfl (show 0 < 10 by decide) (fun x cs => K_toCl x cs) h2⟩, _, _, rfl, ⟨A3, c3, by rw [show (toEd x).imp.length = x.f3.length from List.length_map _], by rw [show (toEd x).imp.length = x.f3.length from List.length_map _]; exact l3, Go.Proofs.Ytcagkdgpoijkoaa.Bridge.row_of_C toCl rfl (show 0 < 10 by decide) (fun x cs => K_toCl x cs) h3⟩, rfl⟩
theorem rows_ed {w : World} {A : Option Addr} {e n : Nat} {g : List (List S51)} (h : Kd.C (Kd.slice e k51) w A n g) : Go.Proofs.Ytcagkdgpoijkoaa.Mq.Row (Go.Proofs.Ytcagkdgpoijkoaa.Mq.slice Go.Proofs.Ytcagkdgpoijkoaa.Mq.edR) w (· < w.heap.size) A (g.map (·.map toEd)) :=
  Go.Proofs.Ytcagkdgpoijkoaa.Bridge.row_of_C (r := Go.Proofs.Ytcagkdgpoijkoaa.Mq.slice Go.Proofs.Ytcagkdgpoijkoaa.Mq.edR) (fun x : List S51 => x.map toEd) rfl (show 0 < 1 by decide) (fun x cs hx => Go.Proofs.Ytcagkdgpoijkoaa.Bridge.K_slice (r := Go.Proofs.Ytcagkdgpoijkoaa.Mq.edR) toEd rfl (show 0 < 4 by decide) (fun x cs h => K_toEd x cs h) x cs hx) h
theorem bs_data (x : ByteArray) : Go.Proofs.Ytcagkdgpoijkoaa.Mq.bs x.data.toList = x := by cases x; rfl
def toPf (x : S35) : Go.Proofs.Ytcagkdgpoijkoaa.Mq.Pf := ⟨x.f0, x.f1⟩
theorem K_toPf {w : World} {S : Nat → Prop} (x : S35) (cs : List Value) (h : k35.K w x cs) : Go.Proofs.Ytcagkdgpoijkoaa.Mq.pfR.K w S (toPf x) cs := by have h_ := k35_open h; subst h_; rfl
def toLk (x : S95) : Go.Proofs.Ytcagkdgpoijkoaa.Mq.Lk := ⟨x.f0.data.toList, x.f1, x.f2.data.toList, x.f3.data.toList, x.f4⟩
theorem K_toLk {w : World} {S : Nat → Prop} (x : S95) (cs : List Value) (h : k95.K w x cs) : Go.Proofs.Ytcagkdgpoijkoaa.Mq.lkR.K w S (toLk x) cs := by
  have h_ := k95_open h; subst h_; show _ = Go.Proofs.Ytcagkdgpoijkoaa.Mq.Lk.enc (toLk x); simp only [Go.Proofs.Ytcagkdgpoijkoaa.Mq.Lk.enc, toLk, bs_data]
def toWy (x : S97) : Go.Proofs.Ytcagkdgpoijkoaa.Mq.Wy := ⟨⟨x.f0.f0, x.f0.f1⟩, x.f1.data.toList, x.f2⟩
theorem K_toWy {w : World} {S : Nat → Prop} (x : S97) (cs : List Value) (h : k97.K w x cs) : Go.Proofs.Ytcagkdgpoijkoaa.Mq.wyR.K w S (toWy x) cs := by
  have h_ := k97_open h; subst h_; show _ = Go.Proofs.Ytcagkdgpoijkoaa.Mq.Wy.enc (toWy x); simp only [Go.Proofs.Ytcagkdgpoijkoaa.Mq.Wy.enc, toWy, bs_data]
def toRt (x : S91) : Go.Proofs.Ytcagkdgpoijkoaa.Mq.Rt := ⟨x.f0.data.toList, x.f1.map toPf, x.f2.map toLk, x.f3.map toWy, x.f4⟩
theorem K_toRt {w : World} (x : S91) (cs : List Value) (h : k91.K w x cs) : Go.Proofs.Ytcagkdgpoijkoaa.Mq.rtR.K w (· < w.heap.size) (toRt x) cs := by
  obtain ⟨A1, c1, A2, c2, A3, c3, rfl, l1, h1, l2, h2, l3, h3⟩ := k91_open h; have e1 : (toRt x).nets.length = x.f1.length := List.length_map _; have e2 : (toRt x).links.length = x.f2.length := List.length_map _; have e3 : (toRt x).ways.length = x.f3.length := List.length_map _; (have eb : Value.string x.f0 = Value.string (Go.Proofs.Ytcagkdgpoijkoaa.Mq.bs (toRt x).name) := by rw [show (toRt x).name = x.f0.data.toList from rfl, bs_data]); exact ⟨_, _, rfl, eb, _, _, rfl, ⟨A1, c1, by rw [e1], by rw [e1]; exact l1, Go.Proofs.Ytcagkdgpoijkoaa.Bridge.row_of_C toPf rfl (show 0 < 2 by decide) (fun x cs => K_toPf x cs) h1⟩, _, _, rfl, ⟨A2, c2, by rw [e2], by rw [e2]; exact l2, Go.Proofs.Ytcagkdgpoijkoaa.Bridge.row_of_C toLk rfl (show 0 < 5 by decide) (fun x cs => K_toLk x cs) h2⟩, _, _, rfl, ⟨A3, c3, by rw [e3], by rw [e3]; exact l3, Go.Proofs.Ytcagkdgpoijkoaa.Bridge.row_of_C toWy rfl (show 0 < 4 by decide) (fun x cs => K_toWy x cs) h3⟩, _, _, rfl, rfl, rfl⟩
theorem rows_rt {w : World} {A : Option Addr} {n : Nat} {g : List S91} (h : Kd.C k91 w A n g) : Go.Proofs.Ytcagkdgpoijkoaa.Mq.Row Go.Proofs.Ytcagkdgpoijkoaa.Mq.rtR w (· < w.heap.size) A (g.map toRt) :=
  Go.Proofs.Ytcagkdgpoijkoaa.Bridge.row_of_C (r := Go.Proofs.Ytcagkdgpoijkoaa.Mq.rtR) toRt rfl (show 0 < 5 by decide) (fun x cs h => K_toRt x cs h) h
def toMp (x : S86) : Go.Proofs.Ytcagkdgpoijkoaa.Mq.Mp := ⟨x.f0.data.toList, x.f1.map toCl, x.f2⟩
theorem K_toMp {w : World} (x : S86) (cs : List Value) (h : k86.K w x cs) : Go.Proofs.Ytcagkdgpoijkoaa.Mq.mpR.K w (· < w.heap.size) (toMp x) cs := by
  obtain ⟨A1, c1, rfl, l1, h1⟩ := k86_open h; have e1 : (toMp x).clauses.length = x.f1.length := List.length_map _; (have eb : Value.string x.f0 = Value.string (Go.Proofs.Ytcagkdgpoijkoaa.Mq.bs (toMp x).name) := by rw [show (toMp x).name = x.f0.data.toList from rfl, bs_data]); exact ⟨_, _, rfl, eb, _, _, rfl, ⟨A1, c1, by rw [e1], by rw [e1]; exact l1, Go.Proofs.Ytcagkdgpoijkoaa.Bridge.row_of_C toCl rfl (show 0 < 10 by decide) (fun x cs => K_toCl x cs) h1⟩, _, _, rfl, rfl, rfl⟩
theorem rows_mp {w : World} {A : Option Addr} {n : Nat} {g : List S86} (h : Kd.C k86 w A n g) : Go.Proofs.Ytcagkdgpoijkoaa.Mq.Row Go.Proofs.Ytcagkdgpoijkoaa.Mq.mpR w (· < w.heap.size) A (g.map toMp) :=
  Go.Proofs.Ytcagkdgpoijkoaa.Bridge.row_of_C (r := Go.Proofs.Ytcagkdgpoijkoaa.Mq.mpR) toMp rfl (show 0 < 3 by decide) (fun x cs h => K_toMp x cs h) h
def frCl (y : Go.Proofs.Ytcagkdgpoijkoaa.Mq.Cl) : S116 := ⟨y.any, ⟨y.pre.addr, y.pre.bits⟩, y.wth, y.out, y.drop, y.set, y.clr, y.more, y.pref⟩
theorem K_frCl {w : World} {S : Nat → Prop} (y : Go.Proofs.Ytcagkdgpoijkoaa.Mq.Cl) (cs : List Value) (h : Go.Proofs.Ytcagkdgpoijkoaa.Mq.clR.K w S y cs) : k116.K w (frCl y) cs := by
  have h_ : cs = Go.Proofs.Ytcagkdgpoijkoaa.Mq.Cl.enc y := h; subst h_; exact k116_mk w (frCl y)
def frEd (y : Go.Proofs.Ytcagkdgpoijkoaa.Mq.Ed) : S51 := ⟨y.frm, y.cost, y.exp.map frCl, y.imp.map frCl⟩
theorem K_frEd {w : World} {S : Nat → Prop} (y : Go.Proofs.Ytcagkdgpoijkoaa.Mq.Ed) (cs : List Value) (h : Go.Proofs.Ytcagkdgpoijkoaa.Mq.edR.K w S y cs) : k51.K w (frEd y) cs := by
  obtain ⟨_, _, rfl, rfl, _, _, rfl, rfl, _, _, rfl, ⟨A2, c2, rfl, l2, h2⟩, _, _, rfl, ⟨A3, c3, rfl, l3, h3⟩, rfl⟩ := h; have e2 : (frEd y).f2.length = y.exp.length := List.length_map _; have e3 : (frEd y).f3.length = y.imp.length := List.length_map _; have k2 := Go.Proofs.Ytcagkdgpoijkoaa.Bridge.C_of_row (d := k116) (r := Go.Proofs.Ytcagkdgpoijkoaa.Mq.clR) frCl rfl (fun y cs hk => K_frCl y cs hk) h2; have k3 := Go.Proofs.Ytcagkdgpoijkoaa.Bridge.C_of_row (d := k116) (r := Go.Proofs.Ytcagkdgpoijkoaa.Mq.clR) frCl rfl (fun y cs hk => K_frCl y cs hk) h3; have := k51_mk w (frEd y) (A2 := A2) (c2 := c2) (by rw [e2]; exact l2) (by rw [e2]; exact k2) (A3 := A3) (c3 := c3) (by rw [e3]; exact l3) (by rw [e3]; exact k3); rw [e2, e3] at this; exact this
def frPf (y : Go.Proofs.Ytcagkdgpoijkoaa.Mq.Pf) : S35 := ⟨y.addr, y.bits⟩
theorem M_frPf {w : World} {S : Nat → Prop} (y : Go.Proofs.Ytcagkdgpoijkoaa.Mq.Pf) (cs : List Value) (h : Go.Proofs.Ytcagkdgpoijkoaa.Mq.pfR.K w S y cs) (W : World) (b : Nat) (ok : Nat → Prop) : k35.M W b ok (frPf y) cs := by
  have h_ : cs = Go.Proofs.Ytcagkdgpoijkoaa.Mq.Pf.enc y := h; subst h_; exact k35_mkM W b ok (frPf y)
end Go.Proofs.Ytcagkdgpoijkoaa.PLm
end
section
namespace Go.Proofs.Ytcagkdgpoijkoaa.PLm
open Go.RowKit Go.Proofs.Ytcagkdgpoijkoaa.Short Go.Proofs.YtcagkdgpoijkoaaW.PrintWords Go.Proofs.YtcagkdgpoijkoaaW.PrintLast Go.Proofs.YtcagkdgpoijkoaaW.PrintMore
attribute [local go_sem] max2_int min2_int max_two min_two max_three min_three max_four min_four
set_option linter.unusedVariables false
set_option linter.unusedSimpArgs false
def lower_Net.ok (l0_0 : List S86) (l0_1 : List S91) : Bool :=
 decide (l0_1.length ≤ 1000000000) && l0_1.all (fun r => decide (r.f0.size ≤ maxLen) && decide (r.f2.length ≤ 1000000000) && r.f2.all (fun l => decide (l.f0.size ≤ maxLen)) && r.f3.all (fun y => decide (y.f1.size ≤ maxLen))) && l0_0.all (fun m => decide (m.f1.length ≤ 2000000000000))
def lower_Net.f (l0_0 : List S86) (l0_1 : List S91) (a1_0 : Int) (a1_1 : Int) : Option (List Bool × List Int × List (List S51)) :=
 if lower_Net.ok l0_0 l0_1 = true then some ((l0_1.map toRt).map (Go.Proofs.Ytcagkdgpoijkoaa.Low.orgB ⟨a1_0, a1_1⟩), (l0_1.map toRt).map (Go.Proofs.Ytcagkdgpoijkoaa.Low.wayB ⟨a1_0, a1_1⟩ (l0_1.map toRt)), ((l0_1.map toRt).map (Go.Proofs.Ytcagkdgpoijkoaa.Low.edgesB ⟨a1_0, a1_1⟩ (l0_0.map toMp) (l0_1.map toRt))).map (fun es => es.map frEd)) else none
theorem lower_Net.calls (A0_0 : Option Addr) (c0_0 : Nat) (l0_0 : List (S86)) (A0_1 : Option Addr) (c0_1 : Nat) (l0_1 : List (S91)) (a1_0 : Int) (a1_1 : Int) (r1 : List Bool) (r2 : List Int) (r3 : List (List S51)) (w : World) (hr0_0 : Kd.C k86 w A0_0 l0_0.length l0_0) (hc0_0 : l0_0.length ≤ c0_0) (hr0_1 : Kd.C k91 w A0_1 l0_1.length l0_1) (hc0_1 : l0_1.length ≤ c0_1) (h : lower_Net.f l0_0 l0_1 a1_0 a1_1 = some (r1, r2, r3)) :
  Calls Try.prog 23 #[.agg #[.slice A0_0 l0_0.length c0_0, .slice A0_1 l0_1.length c0_1], .agg #[.int .u32 a1_0, .int .i64 a1_1]] w fun e w' => ∃ v0_ v1_ v2_ : Value, e = .returned (.agg #[v0_, v1_, v2_]) ∧ Kd.V Kd.bool 4 w' w.heap.size (fun k_ => (w.heap.size ≤ k_)) v0_ r1 ∧ Kd.V (Kd.int .i64) 3 w' w.heap.size (fun k_ => (w.heap.size ≤ k_)) v1_ r2 ∧ Kd.V (Kd.slice 51 k51) 52 w' w.heap.size (fun k_ => (w.heap.size ≤ k_)) v2_ r3 ∧ Below w.heap.size w w' := by
 unfold lower_Net.f at h; split at h
 ·rename_i hok
  have h := Option.some.inj h; simp only [Prod.mk.injEq] at h; obtain ⟨rfl, rfl, rfl⟩ := h; unfold lower_Net.ok at hok; simp only [Bool.and_eq_true, decide_eq_true_eq, List.all_eq_true] at hok; obtain ⟨⟨hl, hR⟩, hM⟩ := hok; have hsz : ∀ x : ByteArray, x.data.toList.length = x.size := fun x => Array.length_toList
  have hc := Go.Proofs.Ytcagkdgpoijkoaa.Low.net_calls (c0 := c0_0) (c1 := c0_1) (rows_mp hr0_0) (rows_rt hr0_1) a1_0 a1_1
   (fun r hr => by
    obtain ⟨x, hx, rfl⟩ := List.mem_map.1 hr; show x.f0.data.toList.length ≤ maxLen
    rw [hsz]; exact (hR x hx).1.1.1)
   (by rw [List.length_map]; exact hl)
   (fun r hr y hy => by
    obtain ⟨x, hx, rfl⟩ := List.mem_map.1 hr; obtain ⟨z, hz, rfl⟩ := List.mem_map.1 hy; show z.f1.data.toList.length ≤ maxLen
    rw [hsz]; exact (hR x hx).2 z hz)
   (fun r hr y hy => by
    obtain ⟨x, hx, rfl⟩ := List.mem_map.1 hr; obtain ⟨z, hz, rfl⟩ := List.mem_map.1 hy; show z.f0.data.toList.length ≤ maxLen
    rw [hsz]; exact (hR x hx).1.2 z hz)
   (fun m hm => by
    obtain ⟨x, hx, rfl⟩ := List.mem_map.1 hm; show (x.f1.map toCl).length ≤ 2000000000000
    rw [List.length_map]; exact hM x hx)
   (fun r hr => by
    obtain ⟨x, hx, rfl⟩ := List.mem_map.1 hr; show (x.f2.map toLk).length ≤ 1000000000
    rw [List.length_map]; exact (hR x hx).1.1.2)
  rw [List.length_map, List.length_map] at hc; refine hc.mono ?_; rintro e w' ⟨v0, v1, v2, rfl, H⟩; have hV0 := Go.Proofs.Ytcagkdgpoijkoaa.Bridge.V_of_own (d := Kd.bool) (fun x : Bool => x) 4 w.heap.size rfl (show 0 < 1 by decide) (fun w S y cs hk => hk) H; have hV1 := Go.Proofs.Ytcagkdgpoijkoaa.Bridge.V_of_own (d := Kd.int .i64) (fun x : Int => x) 3 w.heap.size rfl (show 0 < 1 by decide) (fun w S y cs hk => hk) H.pull1; have hV2 := Go.Proofs.Ytcagkdgpoijkoaa.Bridge.V_of_own (d := Kd.slice 51 k51) (fun es : List Go.Proofs.Ytcagkdgpoijkoaa.Mq.Ed => es.map frEd) 52 w.heap.size rfl (show 0 < 1 by decide) (fun w S y cs hk => Go.Proofs.Ytcagkdgpoijkoaa.Bridge.K_slice_back (d := k51) (r := Go.Proofs.Ytcagkdgpoijkoaa.Mq.edR) frEd rfl (fun y cs hk => K_frEd y cs hk) y cs hk) H.pull2; rw [List.map_id'] at hV0 hV1; exact ⟨v0, v1, v2, rfl, hV0, hV1, hV2, H.below⟩
 ·cases h
def lower_Classes.f (l0_0 : List S86) (l0_1 : List S91) : Option (List S35) :=
 if (l0_1.map fun r => r.f1.length).sum ≤ 8000000000000 then some ((Go.Proofs.Ytcagkdgpoijkoaa.Low.classesB (l0_1.map toRt)).map frPf) else none
theorem lower_Classes.calls (A0_0 : Option Addr) (c0_0 : Nat) (l0_0 : List (S86)) (A0_1 : Option Addr) (c0_1 : Nat) (l0_1 : List (S91)) (r : List (S35)) (w : World) (hr0_0 : Kd.C k86 w A0_0 l0_0.length l0_0) (hc0_0 : l0_0.length ≤ c0_0) (hr0_1 : Kd.C k91 w A0_1 l0_1.length l0_1) (hc0_1 : l0_1.length ≤ c0_1) (h : lower_Classes.f l0_0 l0_1 = some r) :
  Calls Try.prog 22 #[.agg #[.slice A0_0 l0_0.length c0_0, .slice A0_1 l0_1.length c0_1]] w fun e w' => ∃ v0_ : Value, e = .returned (v0_) ∧ Kd.R k35 35 w' w.heap.size (fun _ => True) v0_ r ∧ Below w.heap.size w w' := by
 unfold lower_Classes.f at h; split at h
 ·rename_i hok
  obtain rfl := Option.some.inj h
  have ht : Go.Proofs.Ytcagkdgpoijkoaa.Low.tot (l0_1.map toRt) ≤ 8000000000000 := by
   have e : Go.Proofs.Ytcagkdgpoijkoaa.Low.tot (l0_1.map toRt) = (l0_1.map fun r => r.f1.length).sum := by
    unfold Go.Proofs.Ytcagkdgpoijkoaa.Low.tot; rw [List.map_map]; congr 1; (refine List.map_congr_left fun x _ => ?_); show (x.f1.map toPf).length = x.f1.length; rw [List.length_map]
   rw [e]; exact hok
  have hc := Go.Proofs.Ytcagkdgpoijkoaa.Low.classes_calls (c1 := c0_1) (.slice A0_0 l0_0.length c0_0) (rows_rt hr0_1) ht; rw [List.length_map] at hc; refine hc.mono ?_; rintro e w' ⟨v, rfl, H⟩; have hR := Go.Proofs.Ytcagkdgpoijkoaa.Bridge.R_of_own (d := k35) frPf rfl (fun w S y cs hk W b ok => M_frPf y cs hk W b ok) H; exact ⟨v, rfl, hR, H.below⟩
 ·cases h
end Go.Proofs.Ytcagkdgpoijkoaa.PLm
end
section
namespace Go.Proofs.Ytcagkdgpoijkoaa.LiC
open Go.RowKit Go.Proofs.Ytcagkdgpoijkoaa.PLm Go.Proofs.YtcagkdgpoijkoaaW.PrintWords Go.Proofs.YtcagkdgpoijkoaaW.PrintLast Go.Proofs.YtcagkdgpoijkoaaW.PrintMore Go.Proofs.Ytcagkdgpoijkoaa.Low
open Go.Proofs.Ytcagkdgpoijkoaa.Mq (Pf Rt Cl Ed Mp Lk)
set_option linter.unusedVariables false
set_option linter.unusedSimpArgs false
set_option linter.all false
abbrev P2 := S35
abbrev RT := S91
abbrev MP := S86
abbrev ED := S51
abbrev CL := S116
theorem up {α : Type} {F : Nat → Option α} (h : ∀ k, LeO (F k) (F (k + 1))) {k k' : Nat} (hk : k ≤ k') {r : α} (e : F k = some r) : F k' = some r := by
  induction hk with
  | refl => exact e
  | step _ ih => exact h _ _ ih
theorem w1 {i : Nat} (h : i < 9223372036854775807) : wrap64 ((i : Int) + 1) = ((i + 1 : Nat) : Int) := by unfold wrap64; omega
def cls (R : List RT) : List P2 := (classesB (R.map toRt)).map frPf
theorem for_len (td : Pf) : ∀ cs : List Cl, (Go.Proofs.Ytcagkdgpoijkoaa.Cls.forB td cs).length ≤ cs.length
  | [] => Nat.le_refl _
  | c :: r => by
    have ih := for_len td r
    unfold Go.Proofs.Ytcagkdgpoijkoaa.Cls.forB
    rw [List.length_cons]
    split
    · omega
    · rw [List.length_cons]
      split
      · exact Nat.succ_le_succ (Nat.zero_le _)
      · omega
theorem clauses_len (ms : List Mp) (N : Nat) (h : ∀ m ∈ ms, m.clauses.length ≤ N) (name : Go.Proofs.Ytcagkdgpoijkoaa.Mq.Str) (td : Pf) : (Go.Proofs.Ytcagkdgpoijkoaa.Low.clausesB ms name td).length ≤ N := by
  unfold Go.Proofs.Ytcagkdgpoijkoaa.Low.clausesB
  cases e : ms.find? (fun m => m.name == name) with
  | none => exact Nat.zero_le _
  | some m => exact Nat.le_trans (for_len td _) (h m (List.mem_of_find?_eq_some e))
structure Fit (M : List MP) (R : List RT) : Prop where
  l : R.length ≤ 1000
  r : ∀ r ∈ R, r.f0.size ≤ 1000 ∧ r.f1.length ≤ 1000 ∧ r.f2.length ≤ 1000 ∧ (∀ l ∈ r.f2, l.f0.size ≤ 1000) ∧ ∀ y ∈ r.f3, y.f1.size ≤ 1000
  m : ∀ m ∈ M, m.f1.length ≤ 1000
def netO (R : List RT) (a b : Int) : List Bool := (R.map toRt).map (orgB ⟨a, b⟩)
def netS (R : List RT) (a b : Int) : List Int := (R.map toRt).map (wayB ⟨a, b⟩ (R.map toRt))
def netE (M : List MP) (R : List RT) (a b : Int) : List (List ED) := ((R.map toRt).map (edgesB ⟨a, b⟩ (M.map toMp) (R.map toRt))).map fun es => es.map frEd
theorem maxLen_1000 : 1000 ≤ maxLen := by unfold maxLen; decide
theorem net_at (M : List MP) (R : List RT) (hF : Fit M R) (a b : Int) : lower_Net.f M R a b = some (netO R a b, netS R a b, netE M R a b) := by
  have h0 := maxLen_1000
  have hok : lower_Net.ok M R = true := by
    unfold lower_Net.ok
    simp only [Bool.and_eq_true, decide_eq_true_eq, List.all_eq_true]
    refine ⟨⟨by have := hF.l; omega, fun r hr => ?_⟩, fun m hm => by have := hF.m m hm; omega⟩
    obtain ⟨h1, h2, h3, h4, h5⟩ := hF.r r hr
    exact ⟨⟨⟨by omega, by omega⟩, fun l hl => by have := h4 l hl; omega⟩, fun y hy => by have := h5 y hy; omega⟩
  unfold lower_Net.f
  rw [if_pos hok]
  rfl
theorem classes_at (M : List MP) (R : List RT) (hF : Fit M R) : lower_Classes.f M R = some (cls R) := by
  have hs : ∀ (X : List RT), (∀ r ∈ X, r.f1.length ≤ 1000) → (X.map fun r => r.f1.length).sum ≤ X.length * 1000 := by
    intro X
    induction X with
    | nil => intro _; exact Nat.le_refl _
    | cons r X ih =>
      intro h
      have h1 := ih fun x hx => h x (.tail _ hx)
      have h2 := h r (.head _)
      simp only [List.map_cons, List.sum_cons, List.length_cons]
      omega
  have h1 := hs R fun r hr => (hF.r r hr).2.1
  have h2 := hF.l
  unfold lower_Classes.f
  rw [if_pos (Nat.le_trans h1 (by omega))]
  rfl
theorem config_fit {a0 : Int} {ls : List Int} {mp : List (List Cfg.SU)} {ns nt ws : List Int} (h : Cfg.Shape a0 ls mp ns nt ws) : Fit (Cfg.cmaps mp) (Cfg.crouts a0 ls mp ns nt ws) := by
  have hn : (a0 % 8).toNat < 8 := by omega
  have hnm : ∀ k, (Cfg.nm k).size ≤ 1000 := fun k => by show (2 : Nat) ≤ 1000; omega
  have hL : ∀ k, (Cfg.lnks ls ns mp.length (a0 % 8).toNat k).length ≤ 1000 ∧ ∀ l ∈ Cfg.lnks ls ns mp.length (a0 % 8).toNat k, l.f0.size ≤ 1000 := by
    intro k
    unfold Cfg.lnks Cfg.lnksFrom
    refine ⟨?_, ?_⟩
    · rw [List.length_map]
      refine Nat.le_trans (List.length_filter_le _ _) ?_
      rw [List.length_range']
      omega
    · intro l hl
      obtain ⟨j, -, rfl⟩ := List.mem_map.1 hl
      exact hnm j
  refine ⟨?_, ?_, ?_⟩
  · unfold Cfg.crouts
    rw [List.length_map, List.length_range]
    omega
  · intro r hr
    unfold Cfg.crouts at hr
    obtain ⟨k, -, rfl⟩ := List.mem_map.1 hr
    refine ⟨hnm k, ?_, (hL k).1, (hL k).2, ?_⟩
    · show (Cfg.netsOf nt k).length ≤ 1000
      unfold Cfg.netsOf
      split <;> simp
    · intro y hy
      have hy : y ∈ Cfg.statsOf ws (Cfg.lnks ls ns mp.length (a0 % 8).toNat k) k := hy
      unfold Cfg.statsOf at hy
      split at hy
      · obtain rfl := List.mem_singleton.1 hy
        show ((Cfg.lnks ls ns mp.length (a0 % 8).toNat k).getD _ _).f0.size ≤ 1000
        rw [List.getD_eq_getElem?_getD]
        cases e : (Cfg.lnks ls ns mp.length (a0 % 8).toNat k)[Cfg.num ws k / 8 % (Cfg.lnks ls ns mp.length (a0 % 8).toNat k).length]? with
        | none => show (0 : Nat) ≤ 1000; omega
        | some l => exact (hL k).2 l (List.mem_of_getElem? e)
      · cases hy
  · have hm : ∀ (X : List (List Cfg.SU)) i, ∀ m ∈ Cfg.mapsFrom i X, m.f1.length ≤ 1000 := by
      intro X
      induction X with
      | nil => intro i m hm; cases hm
      | cons x X ih =>
        intro i m hm
        unfold Cfg.mapsFrom at hm
        split at hm
        · rcases List.mem_cons.1 hm with rfl | hm
          · show (Cfg.clausesOf x).length ≤ 1000
            unfold Cfg.clausesOf
            rw [List.length_map, List.length_take]
            omega
          · exact ih _ m hm
        · exact ih _ m hm
    exact hm mp 0
end Go.Proofs.Ytcagkdgpoijkoaa.LiC
end
