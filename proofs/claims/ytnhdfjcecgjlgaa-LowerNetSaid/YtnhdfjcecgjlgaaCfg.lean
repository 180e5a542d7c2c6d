/- Plain law: a shape's configuration, in closed form. -/
import Derived.Test.YtnhdfjcecgjlgaaPNtx12
namespace Go.Proofs.Ytnhdfjcecgjlgaa.Cfg
open Go.RowKit Go.Proofs.Ytnhdfjcecgjlgaa.PNt Go.Proofs.YtnhdfjcecgjlgaaW.PrintWords Go.Proofs.YtnhdfjcecgjlgaaW.PrintLast Go.Proofs.YtnhdfjcecgjlgaaW.PrintMore
set_option linter.unusedVariables false
set_option linter.unusedSimpArgs false
abbrev SP := S36
abbrev SL := S47
abbrev SS := S63
abbrev SR := S51
abbrev SC := S81
abbrev SM := S59
abbrev SU := S79
theorem leO_up {α : Type} {F : Nat → Option α} (h : ∀ k, LeO (F k) (F (k + 1))) {k k' : Nat} (hk : k ≤ k') {r : α} (e : F k = some r) : F k' = some r := by
  induction hk with
  | refl => exact e
  | step _ ih => exact h _ _ ih
theorem w64n {a : Nat} (h : a < 4611686018427387904) : wrap64 (a : Int) = (a : Int) := by unfold wrap64; omega
theorem w1n {i : Nat} (h : i < 9223372036854775807) : wrap64 ((i : Int) + 1) = ((i + 1 : Nat) : Int) := by unfold wrap64; omega
theorem tm (a b : Nat) : Int.tmod (a : Int) (b : Int) = ((a % b : Nat) : Int) := rfl
theorem mnn (a b : Nat) : mn (a : Int) (b : Int) = ((min a b : Nat) : Int) := by unfold mn; split <;> omega
theorem mxn (a b : Nat) : mx (a : Int) (b : Int) = ((max a b : Nat) : Int) := by unfold mx; split <;> omega
theorem getD_at {α : Type} {l : List α} {i : Nat} {x z : α} (h : l[i]? = some x) : l.getD ((i : Int).toNat) z = x := by simp [List.getD, h]
theorem drop_at {α : Type} {l : List α} {i : Nat} (h : i < l.length) : ∃ x, l[i]? = some x ∧ l.drop i = x :: l.drop (i + 1) := ⟨l[i], List.getElem?_eq_getElem h, List.drop_eq_getElem_cons h⟩
def make (n : Nat) : SP := match maquettelaw05_Make.f 36 (n : Int) with
  | some p => ⟨p.1, p.2⟩
  | none => z36
def makeOk (n : Nat) : Bool := match maquettelaw05_Make.f 36 (n : Int) with
  | some p => decide (0 ≤ p.1 ∧ p.1 < 4294967296 ∧ 0 ≤ p.2 ∧ p.2 ≤ 32)
  | none => false
set_option maxRecDepth 100000 in
theorem make_all : ((List.range 256).all makeOk) = true := by decide +kernel
theorem make_at {n : Nat} (h1 : n ≤ 255) : (∀ k, 36 ≤ k → maquettelaw05_Make.f k (n : Int) = some ((make n).f0, (make n).f1)) ∧ (0 ≤ (make n).f0 ∧ (make n).f0 < 4294967296) ∧ (0 ≤ (make n).f1 ∧ (make n).f1 ≤ 32) := by
  have h := List.all_eq_true.1 make_all n (List.mem_range.2 (by omega))
  unfold makeOk at h
  unfold make
  cases e : maquettelaw05_Make.f 36 (n : Int) with
  | none => rw [e] at h; cases h
  | some p =>
    rw [e] at h
    have := of_decide_eq_true h
    exact ⟨fun k hk => leO_up (fun k => maquettelaw05_Make.mono _ k) hk e, ⟨this.1, this.2.1⟩, this.2.2⟩
def okU (r : SU) : Prop := (0 ≤ r.f0 ∧ r.f0 ≤ 255) ∧ (0 ≤ r.f1 ∧ r.f1 ≤ 255) ∧ (0 ≤ r.f2 ∧ r.f2 ≤ 255) ∧ (0 ≤ r.f3 ∧ r.f3 ≤ 255) ∧ (0 ≤ r.f4 ∧ r.f4 ≤ 255) ∧ (0 ≤ r.f5 ∧ r.f5 ≤ 255)
def ruleC (r : SU) : SC := ⟨Int.tmod r.f0 3 == 0, if (Int.tmod r.f0 3 == 0) = true then ⟨0, 0⟩ else make r.f0.toNat, if r.f1 > 100 then 0 else Int.tmod r.f1 16, if r.f2 > 60 then 0 else Int.tmod r.f2 16, Int.tmod r.f3 4 == 3, Int.tdiv r.f3 16 % 256, Int.tdiv r.f4 16 % 256, wrap64 (Int.tmod r.f4 4), if r.f5 < 200 then 0 else wrap64 r.f5⟩
theorem rule_at (r : SU) (h : okU r) {k : Nat} (hk : 40 ≤ k) : maquettelaw07_Rule_Clause.f k r.f0 r.f1 r.f2 r.f3 r.f4 r.f5 = some ((ruleC r).f0, (ruleC r).f1.f0, (ruleC r).f1.f1, (ruleC r).f2, (ruleC r).f3, (ruleC r).f4, (ruleC r).f5, (ruleC r).f6, (ruleC r).f7, (ruleC r).f8) := by
  obtain ⟨k, rfl⟩ : ∃ q, k = q + 2 := ⟨k - 2, by omega⟩
  have hm := (make_at (n := r.f0.toNat) (by have := h.1; omega)).1 k (by omega)
  rw [Int.toNat_of_nonneg h.1.1] at hm
  have J1 : ∀ (b : Bool) (w o : Int) (d : Bool) (s c m p : Int), maquettelaw07_Rule_Clause.j1 (k + 1) r.f0 r.f1 r.f2 r.f3 r.f4 r.f5 b 0 0 w o d s c m p = some (b, (if b = true then (⟨0, 0⟩ : SP) else make r.f0.toNat).f0, (if b = true then (⟨0, 0⟩ : SP) else make r.f0.toNat).f1, w, o, d, s, c, m, if r.f5 < 200 then 0 else p) := by
    intro b w o d s c m p
    rw [maquettelaw07_Rule_Clause.j1]
    by_cases q : r.f5 < 200
    · rw [if_pos q, if_pos q]
      cases b with
      | true => rw [if_pos rfl, if_pos rfl]
      | false => rw [if_neg (by simp), if_neg (by simp), hm, Option.bind_some]
    · rw [if_neg q, if_neg q]
      cases b with
      | true => rw [if_pos rfl, if_pos rfl]
      | false => rw [if_neg (by simp), if_neg (by simp), hm, Option.bind_some]
  unfold maquettelaw07_Rule_Clause.f ruleC
  by_cases p : r.f1 > 100
  · rw [if_pos p, if_pos p, maquettelaw07_Rule_Clause.j0]
    by_cases q : r.f2 > 60
    · rw [if_pos q, if_pos q, J1]
    · rw [if_neg q, if_neg q, J1]
  · rw [if_neg p, if_neg p, maquettelaw07_Rule_Clause.j0]
    by_cases q : r.f2 > 60
    · rw [if_pos q, if_pos q, J1]
    · rw [if_neg q, if_neg q, J1]
def clausesOf (rs : List SU) : List SC := (rs.take 5).map ruleC
theorem clauses_l (rs : List SU) (h : ∀ r ∈ rs, okU r) (hn : rs.length ≤ 9223372036854775807) : ∀ d i (acc : List SC), i + d = rs.length → acc.length ≤ i → ∃ k, maquettelaw07_Clauses.l0 k acc rs (rs.length : Int) (i : Int) = some (acc ++ ((rs.drop i).take (5 - i)).map ruleC) := by
  intro d
  induction d with
  | zero =>
    intro i acc hi ha
    obtain rfl : i = rs.length := by omega
    refine ⟨1, ?_⟩
    rw [maquettelaw07_Clauses.l0, if_neg (by omega)]
    simp
  | succ d ih =>
    intro i acc hi ha
    obtain ⟨p, hp, hd⟩ := drop_at (l := rs) (i := i) (by omega)
    by_cases h5 : i < 5
    · obtain ⟨k, hk⟩ := ih (i + 1) (acc ++ [ruleC p]) (by omega) (by simp; omega)
      refine ⟨k + 40 + 1, ?_⟩
      rw [maquettelaw07_Clauses.l0, if_pos (by omega), if_pos (by omega), if_pos (by omega), if_pos (by omega)]
      simp only [rd_T79, getD_at hp]
      rw [rule_at p (h p (List.mem_of_getElem? hp)) (by omega), Option.bind_some, if_pos (by omega), w1n (by omega)]
      refine (leO_up (F := fun k => maquettelaw07_Clauses.l0 k _ _ _ _) (fun k => maquettelaw07_Clauses.mono_l k _ _ _ _) (show k ≤ k + 40 by omega) hk).trans ?_
      rw [hd, show 5 - i = (5 - (i + 1)) + 1 by omega, List.take_succ_cons]
      simp
    · obtain ⟨k, hk⟩ := ih (i + 1) acc (by omega) (by omega)
      refine ⟨k + 1, ?_⟩
      rw [maquettelaw07_Clauses.l0, if_pos (by omega), if_pos (by omega), if_pos (by omega), if_neg (by omega), w1n (by omega)]
      refine hk.trans ?_
      rw [show 5 - i = 0 by omega, show 5 - (i + 1) = 0 by omega]
      simp
theorem clauses_at (rs : List SU) (h : ∀ r ∈ rs, okU r) (hn : rs.length ≤ 9223372036854775807) : ∃ k, maquettelaw07_Clauses.f k rs = some (clausesOf rs) := by
  obtain ⟨k, hk⟩ := clauses_l rs h hn rs.length 0 [] (by omega) (by simp)
  exact ⟨k, hk⟩
def nm (k : Nat) : ByteArray := ⟨#[114, UInt8.ofNat (97 + k)]⟩
def mname (k : Nat) : ByteArray := ⟨#[109, UInt8.ofNat (97 + k)]⟩
theorem name_all : ∀ k : Fin 8, maquettelaw07_Name.f ((k.val : Nat) : Int) = some (nm k.val) := by decide +kernel
theorem name_at {k : Nat} (h : k < 8) : maquettelaw07_Name.f (k : Int) = some (nm k) := name_all ⟨k, h⟩
def num (l : List Int) (k : Nat) : Nat := (l.getD (k % l.length) 0).toNat
def okB (l : List Int) : Prop := ∀ x ∈ l, 0 ≤ x ∧ x ≤ 255
theorem num_le {l : List Int} (h : okB l) (k : Nat) : num l k ≤ 255 := by
  unfold num
  cases e : l[k % l.length]? with
  | none => simp [List.getD, e]
  | some x =>
    have := h x (List.mem_of_getElem? e)
    simp only [List.getD, e, Option.getD_some]
    omega
theorem number_at {l : List Int} (h : okB l) (k : Nat) : maquettelaw07_number.f l (k : Int) = some ((num l k : Nat) : Int) := by
  unfold maquettelaw07_number.f num
  by_cases h0 : l.length = 0
  · obtain rfl : l = [] := List.length_eq_zero_iff.1 h0
    rfl
  · have hlt := Nat.mod_lt k (show 0 < l.length by omega)
    rw [if_neg (by omega), tm, if_pos (by omega), if_pos (by omega)]
    have e : l[k % l.length]? = some l[k % l.length] := List.getElem?_eq_getElem hlt
    have hb := h _ (List.getElem_mem hlt)
    simp only [rd, Int.toNat_natCast, List.getD, e, Option.getD_some]
    congr 1
    unfold wrap64
    omega
def mpd (q n : Nat) : ByteArray := if min q 4 = 0 then ⟨#[]⟩ else if 0 < n % 3 then ⟨#[]⟩ else mname (n / 3 % min q 4)
theorem enc_all : ∀ k : Fin 4, Utf8.encode (wrap32 (wrap64 (97 + ((k.val : Nat) : Int)))) = ⟨#[UInt8.ofNat (97 + k.val)]⟩ := by decide +kernel
theorem enc_at {k : Nat} (h : k < 4) : Utf8.encode (wrap32 (wrap64 (97 + (k : Int)))) = ⟨#[UInt8.ofNat (97 + k)]⟩ := enc_all ⟨k, h⟩
theorem mname_app (k : Nat) : (⟨#[109]⟩ : ByteArray) ++ ⟨#[UInt8.ofNat (97 + k)]⟩ = mname k := rfl
theorem mapped_at (a0 : Int) (l1 : List Int) (l2 : List (List SU)) (l3 l4 l5 : List Int) (n : Nat) (hn : n < 100000) : maquettelaw07_Shape_mapped.f a0 l1 l2 l3 l4 l5 (n : Int) = some (mpd l2.length n) := by
  unfold maquettelaw07_Shape_mapped.f mpd
  have e4 : mn (l2.length : Int) 4 = ((min l2.length 4 : Nat) : Int) := mnn l2.length 4
  rw [e4]
  by_cases h0 : min l2.length 4 = 0
  · rw [if_pos (by omega), if_pos h0]
  · rw [if_neg (by omega), if_neg h0]
    have t3 : Int.tmod (n : Int) 3 = ((n % 3 : Nat) : Int) := rfl
    have d3 : Int.tdiv (n : Int) 3 = ((n / 3 : Nat) : Int) := rfl
    rw [t3, d3, w64n (by omega), tm]
    by_cases h3 : 0 < n % 3
    · rw [if_pos (by omega), if_pos h3]
    · rw [if_neg (by omega), if_neg h3]
      have hlt := Nat.mod_lt (n / 3) (show 0 < min l2.length 4 by omega)
      rw [enc_at (by omega)]
      rw [if_pos (by show 1 + 1 ≤ _; omega), mname_app]
def mapsFrom : Nat → List (List SU) → List SM
  | _, [] => []
  | i, rs :: r => if i < 4 then ⟨mname i, clausesOf rs, 0⟩ :: mapsFrom (i + 1) r else mapsFrom (i + 1) r
def isL (ls : List Int) (n k j : Nat) : Bool := !(j == k) && (decide (0 < num ls (min j k * n + max j k) % 3) || (j == k + 1 || k == j + 1))
def lnk (ls ns : List Int) (q n k j : Nat) : SL := ⟨nm j, ((1 + num ls (min j k * n + max j k) / 3 % 3 : Nat) : Int), mpd q (num ns (k * n + j)), mpd q (num ns (k * n + j) / 12), 0⟩
def lnksFrom (ls ns : List Int) (q n k j d : Nat) : List SL := ((List.range' j d).filter (isL ls n k)).map (lnk ls ns q n k)
def lnks (ls ns : List Int) (q n k : Nat) : List SL := lnksFrom ls ns q n k 0 n
def netsOf (nt : List Int) (k : Nat) : List SP := if k = 0 ∨ num nt k % 4 = 0 then [make (num nt k)] else []
def statsOf (ws : List Int) (l : List SL) (k : Nat) : List SS := if num ws k % 5 = 4 ∧ 0 < l.length then [⟨make (num ws k), (l.getD (num ws k / 8 % l.length) z47).f0, 0⟩] else []
def rout (ls : List Int) (q : Nat) (ns nt ws : List Int) (n k : Nat) : SR := ⟨nm k, netsOf nt k, lnks ls ns q n k, statsOf ws (lnks ls ns q n k) k, 0⟩
section
variable (a0 : Int) (ls : List Int) (mp : List (List SU)) (ns nt ws : List Int) (n : Nat) (hn : n < 8) (hls : okB ls) (hns : okB ns) (hnt : okB nt) (hws : okB ws)
theorem up1 {k k' : Nat} (hk : k ≤ k') {r} {a b c d e f g h i j} : maquettelaw07_Shape_Config.l1 k a b c d e f g h i j = some r → maquettelaw07_Shape_Config.l1 k' a b c d e f g h i j = some r := leO_up (F := fun k => maquettelaw07_Shape_Config.l1 k a b c d e f g h i j) (fun k => (maquettelaw07_Shape_Config.mono_l k).2.1 _ _ _ _ _ _ _ _ _ _) hk
theorem up0 {k k' : Nat} (hk : k ≤ k') {r} {a b c d e f g h i j} : maquettelaw07_Shape_Config.l0 k a b c d e f g h i j = some r → maquettelaw07_Shape_Config.l0 k' a b c d e f g h i j = some r := leO_up (F := fun k => maquettelaw07_Shape_Config.l0 k a b c d e f g h i j) (fun k => (maquettelaw07_Shape_Config.mono_l k).1 _ _ _ _ _ _ _ _ _ _) hk
theorem up2 {k k' : Nat} (hk : k ≤ k') {r} {a b c d e f g h i j l m o p q} : maquettelaw07_Shape_Config.l2 k a b c d e f g h i j l m o p q = some r → maquettelaw07_Shape_Config.l2 k' a b c d e f g h i j l m o p q = some r := leO_up (F := fun k => maquettelaw07_Shape_Config.l2 k a b c d e f g h i j l m o p q) (fun k => (maquettelaw07_Shape_Config.mono_l k).2.2.2.2.1 _ _ _ _ _ _ _ _ _ _ _ _ _ _ _) hk
include hn in
theorem idx (j κ : Nat) (hj : j < 8) (hκ : κ < 8) : wrap64 ((wrap64 ((mn (j : Int) (κ : Int)) * (n : Int))) + (mx (j : Int) (κ : Int))) = ((min j κ * n + max j κ : Nat) : Int) := by
  have hb : min j κ * n ≤ 7 * 7 := Nat.mul_le_mul (by omega) (by omega)
  rw [mnn, mxn, ← Int.natCast_mul, w64n (by omega), ← Int.natCast_add, w64n (by omega)]
set_option maxHeartbeats 4000000 in
theorem j5_at (κ : Nat) (hκ : κ < 8) (j : Nat) (hj : j < 8) (x11 : Nat) (b : Bool) (M : List SM) (racc : List SR) (rn : ByteArray) (rnets : List SP) (acc : List SL) (ha : acc.length ≤ j) (at_ : Int) (r)
    (hn : n < 8) (hls : okB ls) (hns : okB ns)
    (h : ∃ k, maquettelaw07_Shape_Config.l2 k (n : Int) (κ : Int) ((j + 1 : Nat) : Int) a0 ls mp ns nt ws M racc rn rnets (if b = true then acc ++ [⟨nm j, ((1 + num ls x11 / 3 % 3 : Nat) : Int), mpd mp.length (num ns (κ * n + j)), mpd mp.length (num ns (κ * n + j) / 12), 0⟩] else acc) at_ = some r) :
    ∃ k, maquettelaw07_Shape_Config.j5 k (n : Int) (κ : Int) (j : Int) (x11 : Int) b a0 ls mp ns nt ws M racc rn rnets acc at_ = some r := by
  obtain ⟨k, hk⟩ := h
  refine ⟨k + 1, ?_⟩
  rw [maquettelaw07_Shape_Config.j5]
  cases b with
  | false => rw [if_neg (by simp), w1n (by omega)]; exact hk
  | true =>
    rewrite [if_pos rfl] at hk ⊢
    have hb : κ * n ≤ 7 * 7 := Nat.mul_le_mul (by omega) (by omega)
    have ex : wrap64 (wrap64 ((κ : Int) * (n : Int)) + (j : Int)) = ((κ * n + j : Nat) : Int) := by
      rw [← Int.natCast_mul, w64n (a := κ * n) (by omega), ← Int.natCast_add, w64n (a := κ * n + j) (by omega)]
    have n1 := number_at hns (κ * n + j)
    have q1 := num_le hns (κ * n + j)
    have n2 := number_at hls x11
    have q2 := num_le hls x11
    rewrite [ex]
    clear ex hb
    generalize κ * n + j = x at n1 q1 hk ⊢
    rewrite [n1]
    clear n1
    generalize num ns x = v1 at q1 hk ⊢
    rewrite [Option.bind_some, name_at hj, Option.bind_some, n2]
    clear n2
    generalize num ls x11 = v2 at q2 hk ⊢
    have m1 := mapped_at a0 ls mp ns nt ws v1 (by omega)
    have m2 := mapped_at a0 ls mp ns nt ws (v1 / 12) (by omega)
    have e12 : wrap64 (Int.tdiv (v1 : Int) 12) = ((v1 / 12 : Nat) : Int) := w64n (a := v1 / 12) (by omega)
    have e3 : wrap64 (1 + Int.tmod (wrap64 (Int.tdiv (v2 : Int) 3)) 3) = ((1 + v2 / 3 % 3 : Nat) : Int) := by
      have h3 : wrap64 (Int.tdiv (v2 : Int) 3) = ((v2 / 3 : Nat) : Int) := w64n (a := v2 / 3) (by omega)
      rw [h3]
      exact w64n (a := 1 + v2 / 3 % 3) (by omega)
    rewrite [Option.bind_some, m1, Option.bind_some, e12, m2, Option.bind_some, if_pos (by omega), w1n (by omega), e3]
    exact hk
set_option maxHeartbeats 4000000 in
theorem l2_at (κ : Nat) (hκ : κ < n) (M : List SM) (racc : List SR) (hr : racc.length ≤ κ) (rn : ByteArray) (rnets : List SP) (at_ : Int) (r) (hn : n < 8) (hls : okB ls) (hns : okB ns) (hws : okB ws) : ∀ d j (acc : List SL), j + d = n → acc.length ≤ j →
    (∃ k, maquettelaw07_Shape_Config.l1 k (n : Int) ((κ + 1 : Nat) : Int) a0 ls mp ns nt ws M (racc ++ [⟨rn, rnets, acc ++ lnksFrom ls ns mp.length n κ j d, statsOf ws (acc ++ lnksFrom ls ns mp.length n κ j d) κ, at_⟩]) = some r) →
    ∃ k, maquettelaw07_Shape_Config.l2 k (n : Int) (κ : Int) (j : Int) a0 ls mp ns nt ws M racc rn rnets acc at_ = some r := by
  intro d
  induction d with
  | zero =>
    intro j acc hj ha ⟨k, hk⟩
    obtain rfl : j = n := by omega
    simp only [lnksFrom, List.range'_zero, List.filter_nil, List.map_nil, List.append_nil] at hk
    refine ⟨k + 36 + 1, ?_⟩
    have q1 := num_le hws κ
    have t5 : Int.tmod ((num ws κ : Nat) : Int) 5 = ((num ws κ % 5 : Nat) : Int) := rfl
    have d8 : Int.tdiv ((num ws κ : Nat) : Int) 8 = ((num ws κ / 8 : Nat) : Int) := rfl
    rw [maquettelaw07_Shape_Config.l2, if_neg (by omega), number_at hws, Option.bind_some, t5]
    unfold statsOf at hk
    by_cases h5 : num ws κ % 5 = 4
    · rw [if_pos (by omega)]
      by_cases hl : 0 < acc.length
      · rw [if_pos ⟨h5, hl⟩] at hk
        have hm := (make_at q1).1 (k + 36) (by omega)
        have e : ((num ws κ : Nat) : Int) % 256 = ((num ws κ : Nat) : Int) := by omega
        have hlt := Nat.mod_lt (num ws κ / 8) hl
        rw [if_pos (by omega), e, hm, Option.bind_some, if_neg (by omega), d8, w64n (a := num ws κ / 8) (by omega), tm, if_pos (by omega), if_pos (by omega), if_pos (by simp), if_pos (by omega), w1n (by omega)]
        simp only [rd_T47, Int.toNat_natCast]
        exact up1 (by omega) hk
      · rw [if_neg (fun h => hl h.2)] at hk
        rw [if_neg (by omega), if_pos (by omega), w1n (by omega)]
        exact up1 (by omega) hk
    · rw [if_neg (fun h => h5 h.1)] at hk
      rw [if_neg (by omega), if_pos (by omega), w1n (by omega)]
      exact up1 (by omega) hk
  | succ d ih =>
    intro j acc hj ha h
    have hx := idx n hn j κ (by omega) (by omega)
    have hstep : lnksFrom ls ns mp.length n κ j (d + 1) = (if isL ls n κ j = true then [lnk ls ns mp.length n κ j] else []) ++ lnksFrom ls ns mp.length n κ (j + 1) d := by
      unfold lnksFrom
      rw [List.range'_succ, List.filter_cons]
      split <;> simp
    have h5 : ∃ k, maquettelaw07_Shape_Config.j5 k (n : Int) (κ : Int) (j : Int) ((min j κ * n + max j κ : Nat) : Int) (isL ls n κ j) a0 ls mp ns nt ws M racc rn rnets acc at_ = some r := by
      refine j5_at a0 ls mp ns nt ws n κ (by omega) j (by omega) _ _ M racc rn rnets acc ha at_ r hn hls hns ?_
      refine ih (j + 1) (if isL ls n κ j = true then acc ++ [⟨nm j, ((1 + num ls (min j κ * n + max j κ) / 3 % 3 : Nat) : Int), mpd mp.length (num ns (κ * n + j)), mpd mp.length (num ns (κ * n + j) / 12), 0⟩] else acc) (by omega) (by
        split
        · rw [List.length_append, List.length_singleton]; omega
        · omega) ?_
      refine h.imp fun k hk => ?_
      rw [hstep] at hk
      by_cases hi : isL ls n κ j = true
      · rw [if_pos hi] at hk ⊢
        rw [← hk]
        simp only [List.append_assoc, lnk]
      · rw [if_neg hi] at hk ⊢
        rw [← hk]
        simp only [List.nil_append]
    obtain ⟨k, hk⟩ := h5
    refine ⟨k + 1, ?_⟩
    have q2 := num_le hls (min j κ * n + max j κ)
    have t3 : Int.tmod ((num ls (min j κ * n + max j κ) : Nat) : Int) 3 = ((num ls (min j κ * n + max j κ) % 3 : Nat) : Int) := rfl
    rw [maquettelaw07_Shape_Config.l2, if_pos (by omega), hx]
    by_cases e : j = κ
    · rw [if_pos (by omega)]
      have hi : isL ls n κ j = false := by simp [isL, e]
      rw [hi] at hk
      exact hk
    · rw [if_neg (by omega), number_at hls, Option.bind_some, t3]
      have e0 : (j == κ) = false := by simpa using e
      by_cases h3 : 0 < num ls (min j κ * n + max j κ) % 3
      · rw [if_pos (by omega)]
        have hi : isL ls n κ j = true := by simp [isL, e0, h3]
        rw [hi] at hk
        exact hk
      · rw [if_neg (by omega), w1n (by omega)]
        by_cases h1 : j = κ + 1
        · rw [if_pos (by omega)]
          have hi : isL ls n κ j = true := by simp [isL, e0, h1]
          rw [hi] at hk
          exact hk
        · rw [if_neg (by omega), w1n (by omega)]
          have hi : isL ls n κ j = ((κ : Int) == ((j + 1 : Nat) : Int)) := by
            have h1' : (j == κ + 1) = false := by simpa using h1
            simp only [isL, e0, h1', decide_eq_false h3, Bool.not_false, Bool.true_and, Bool.false_or]
            by_cases h2 : κ = j + 1
            · subst h2; simp
            · have : ¬ ((κ : Int) = ((j + 1 : Nat) : Int)) := by omega
              rw [beq_eq_false_iff_ne.2 h2, beq_eq_false_iff_ne.2 this]
          rw [hi] at hk
          exact hk
set_option maxHeartbeats 4000000 in
theorem l1_at (M : List SM) (hn : n < 8) (hls : okB ls) (hns : okB ns) (hnt : okB nt) (hws : okB ws) : ∀ d κ (racc : List SR), κ + d = n → racc.length ≤ κ →
    ∃ k, maquettelaw07_Shape_Config.l1 k (n : Int) (κ : Int) a0 ls mp ns nt ws M racc = some (M, racc ++ (List.range' κ d).map (rout ls mp.length ns nt ws n)) := by
  intro d
  induction d with
  | zero =>
    intro κ racc hκ hr
    refine ⟨1, ?_⟩
    rw [maquettelaw07_Shape_Config.l1, if_neg (by omega)]
    simp
  | succ d ih =>
    intro κ racc hκ hr
    have hih := ih (κ + 1) (racc ++ [rout ls mp.length ns nt ws n κ]) (by omega) (by simp; omega)
    have h2 := l2_at a0 ls mp ns nt ws n κ (by omega) M racc hr (nm κ) (netsOf nt κ) 0 (M, racc ++ (List.range' κ (d + 1)).map (rout ls mp.length ns nt ws n)) hn hls hns hws n 0 [] (by omega) (by simp) (by
      refine hih.imp fun k hk => ?_
      rw [List.range'_succ, List.map_cons]
      simp only [List.nil_append]
      refine Eq.trans hk ?_
      simp)
    rw [show ((0 : Nat) : Int) = 0 from rfl] at h2
    obtain ⟨k, hk⟩ := h2
    have q1 := num_le hnt κ
    have hm := (make_at q1).1 (k + 36) (by omega)
    have e : ((num nt κ : Nat) : Int) % 256 = ((num nt κ : Nat) : Int) := by omega
    have t4 : Int.tmod ((num nt κ : Nat) : Int) 4 = ((num nt κ % 4 : Nat) : Int) := rfl
    have J : ∀ b : Bool, (b = true ↔ (κ = 0 ∨ num nt κ % 4 = 0)) → maquettelaw07_Shape_Config.j2 (k + 36 + 2) (n : Int) (κ : Int) ((num nt κ : Nat) : Int) b a0 ls mp ns nt ws M racc (nm κ) 0 = some (M, racc ++ (List.range' κ (d + 1)).map (rout ls mp.length ns nt ws n)) := by
      intro b hb
      have h36 := up2 (show k ≤ k + 36 by omega) hk
      rw [maquettelaw07_Shape_Config.j2]
      cases b with
      | true =>
        have hm' := leO_up (fun k => maquettelaw05_Make.mono _ k) (show k + 36 ≤ k + 36 + 1 by omega) hm
        rw [if_pos rfl, e, hm', Option.bind_some, if_pos (by simp), maquettelaw07_Shape_Config.j3]
        unfold netsOf at h36
        rw [if_pos (hb.1 rfl)] at h36
        exact h36
      | false =>
        rw [if_neg (by simp), maquettelaw07_Shape_Config.j3]
        unfold netsOf at h36
        rw [if_neg (fun h => by have := hb.2 h; cases this)] at h36
        exact h36
    refine ⟨k + 36 + 2 + 1, ?_⟩
    rw [maquettelaw07_Shape_Config.l1, if_pos (by omega), name_at (by omega), Option.bind_some, number_at hnt, Option.bind_some]
    by_cases h0 : κ = 0
    · rw [if_pos (by omega)]
      exact J true ⟨fun _ => Or.inl h0, fun _ => rfl⟩
    · rw [if_neg (by omega), t4]
      refine J _ ⟨fun h => Or.inr ?_, fun h => ?_⟩
      · have := eq_of_beq h; omega
      · rcases h with h | h
        · exact absurd h h0
        · rw [h]; rfl
set_option maxHeartbeats 4000000 in
theorem l0_at (hm : ∀ rs ∈ mp, ∀ r ∈ rs, okU r) (hz : mp.length ≤ 9223372036854775807) (hz2 : ∀ rs ∈ mp, rs.length ≤ 9223372036854775807) (hn : a0 % 8 = n) (ha0 : 0 ≤ a0 ∧ a0 ≤ 255) (r) : ∀ d i (acc : List SM), i + d = mp.length → acc.length ≤ i →
    (∃ k, maquettelaw07_Shape_Config.l1 k (n : Int) 0 a0 ls mp ns nt ws (acc ++ mapsFrom i (mp.drop i)) [] = some r) →
    ∃ k, maquettelaw07_Shape_Config.l0 k mp (mp.length : Int) (i : Int) a0 ls mp ns nt ws acc = some r := by
  intro d
  induction d with
  | zero =>
    intro i acc hi ha ⟨k, hk⟩
    obtain rfl : i = mp.length := by omega
    rw [List.drop_length] at hk
    refine ⟨k + 1, ?_⟩
    have t8 : wrap64 (Int.tmod a0 8) = (n : Int) := by rw [Int.tmod_eq_emod_of_nonneg ha0.1, hn]; unfold wrap64; omega
    rw [maquettelaw07_Shape_Config.l0, if_neg (by omega), t8]
    simpa [mapsFrom] using hk
  | succ d ih =>
    intro i acc hi ha h
    obtain ⟨p, hp, hd⟩ := drop_at (l := mp) (i := i) (by omega)
    have hpm := List.mem_of_getElem? hp
    rw [hd] at h
    by_cases h4 : i < 4
    · obtain ⟨c, hc⟩ := clauses_at p (hm p hpm) (hz2 p hpm)
      have hih := ih (i + 1) (acc ++ [⟨mname i, clausesOf p, 0⟩]) (by omega) (by simp; omega) (by
        refine h.imp fun k hk => ?_
        rw [mapsFrom, if_pos h4] at hk
        rw [← hk]
        simp)
      obtain ⟨k, hk⟩ := hih
      refine ⟨k + c + 1, ?_⟩
      rw [maquettelaw07_Shape_Config.l0, if_pos (by omega), if_pos (by omega), if_pos (by omega), if_pos (by omega), enc_at h4, if_pos (by show 1 + 1 ≤ _; omega)]
      simp only [rd_L25, getD_at hp]
      rw [leO_up (fun k => maquettelaw07_Clauses.mono _ k) (show c ≤ k + c by omega) hc, Option.bind_some, if_pos (by omega), w1n (by omega), mname_app]
      exact up0 (by omega) hk
    · have hih := ih (i + 1) acc (by omega) (by omega) (by
        refine h.imp fun k hk => ?_
        rw [mapsFrom, if_neg h4] at hk
        exact hk)
      obtain ⟨k, hk⟩ := hih
      refine ⟨k + 1, ?_⟩
      rw [maquettelaw07_Shape_Config.l0, if_pos (by omega), if_pos (by omega), if_pos (by omega), if_neg (by omega), w1n (by omega)]
      exact hk
end
structure Shape (a0 : Int) (ls : List Int) (mp : List (List SU)) (ns nt ws : List Int) : Prop where
  a : 0 ≤ a0 ∧ a0 ≤ 255
  l : okB ls
  m : ∀ rs ∈ mp, ∀ r ∈ rs, okU r
  s : okB ns
  t : okB nt
  w : okB ws
  zm : mp.length ≤ 9223372036854775807
  zr : ∀ rs ∈ mp, rs.length ≤ 9223372036854775807
def cmaps (mp : List (List SU)) : List SM := mapsFrom 0 mp
def crouts (a0 : Int) (ls : List Int) (mp : List (List SU)) (ns nt ws : List Int) : List SR := (List.range (a0 % 8).toNat).map (rout ls mp.length ns nt ws (a0 % 8).toNat)
theorem config_at {a0 : Int} {ls : List Int} {mp : List (List SU)} {ns nt ws : List Int} (h : Shape a0 ls mp ns nt ws) : ∃ K, ∀ k, K ≤ k → maquettelaw07_Shape_Config.f k a0 ls mp ns nt ws = some (cmaps mp, crouts a0 ls mp ns nt ws) := by
  obtain ⟨n, hn⟩ : ∃ n : Nat, a0 % 8 = n := ⟨(a0 % 8).toNat, by have := h.a; omega⟩
  have hn8 : n < 8 := by omega
  have h1 := l1_at a0 ls mp ns nt ws n (cmaps mp) hn8 h.l h.s h.t h.w n 0 [] (by omega) (by simp)
  rw [show ((0 : Nat) : Int) = 0 from rfl] at h1
  obtain ⟨k, hk⟩ := l0_at a0 ls mp ns nt ws n h.m h.zm h.zr hn h.a _ mp.length 0 [] (by omega) (by simp) h1
  refine ⟨k, fun k' hk' => ?_⟩
  rw [show ((0 : Nat) : Int) = 0 from rfl] at hk
  unfold maquettelaw07_Shape_Config.f
  refine (up0 hk' hk).trans ?_
  unfold crouts
  rw [hn, Int.toNat_natCast, List.range_eq_range']
  simp
end Go.Proofs.Ytnhdfjcecgjlgaa.Cfg
