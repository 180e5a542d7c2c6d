/- Plain law: in a configuration that numbers make edges go both ways, and each class has an origin. -/
import Derived.Test.YtncebbpnmpgjiaaLiC
namespace Go.Proofs.Ytncebbpnmpgjiaa.LoN
open Go.RowKit Go.Proofs.Ytncebbpnmpgjiaa.PMm Go.Proofs.YtncebbpnmpgjiaaW.PrintWords Go.Proofs.YtncebbpnmpgjiaaW.PrintLast Go.Proofs.YtncebbpnmpgjiaaW.PrintMore Go.Proofs.Ytncebbpnmpgjiaa.Low Go.Proofs.Ytncebbpnmpgjiaa.LiC
open Go.Proofs.Ytncebbpnmpgjiaa.Mq (Pf Rt Cl Ed Mp Lk)
set_option linter.unusedVariables false
set_option linter.unusedSimpArgs false
set_option linter.all false
theorem index_mem (ac : List Pf) (p : Pf) : 0 ≤ indexB ac p ↔ p ∈ ac := by
  unfold indexB
  cases h : ac.findIdx? (fun q => p == q) with
  | none =>
    rw [List.findIdx?_eq_none_iff] at h
    constructor
    · intro h'; exact absurd h' (by decide)
    · intro hp
      have := h p hp
      simp at this
  | some k =>
    rw [List.findIdx?_eq_some_iff_getElem] at h
    obtain ⟨hk, h1, -⟩ := h
    constructor
    · intro _
      have : p = ac[k] := by simpa using h1
      rw [this]
      exact List.getElem_mem hk
    · intro _
      exact Int.natCast_nonneg k
theorem mem_add (acc : List Pf) (p x : Pf) : x ∈ addB acc p → x ∈ acc ∨ x = p := by
  unfold addB
  split
  · exact Or.inl
  · intro h; simpa using h
theorem mem_adds (ps : List Pf) : ∀ (acc : List Pf) (x : Pf), x ∈ ps.foldl addB acc → x ∈ acc ∨ x ∈ ps := by
  induction ps with
  | nil => intro acc x h; exact .inl h
  | cons p ps ih =>
    intro acc x h
    rcases ih _ x h with h | h
    · rcases mem_add acc p x h with h | rfl
      · exact .inl h
      · exact .inr (.head _)
    · exact .inr (.tail _ h)
theorem mem_nets (rs : List Rt) : ∀ (acc : List Pf) (x : Pf), x ∈ rs.foldl (fun acc r => r.nets.foldl addB acc) acc → x ∈ acc ∨ ∃ r ∈ rs, x ∈ r.nets := by
  induction rs with
  | nil => intro acc x h; exact .inl h
  | cons r rs ih =>
    intro acc x h
    rcases ih _ x h with h | ⟨q, hq, h⟩
    · rcases mem_adds _ _ _ h with h | h
      · exact .inl h
      · exact .inr ⟨r, .head _, h⟩
    · exact .inr ⟨q, .tail _ hq, h⟩
/-- Each class has an origin. -/
theorem has_origin (R : List RT) (p : P2) (h : p ∈ cls R) : ∃ k : Nat, (netO R p.f0 p.f1)[k]? = some true := by
  unfold cls classesB netsB at h
  obtain ⟨x, hx, rfl⟩ := List.mem_map.1 h
  rw [List.mem_mergeSort] at hx
  rcases mem_nets _ _ _ hx with h | ⟨r, hr, h⟩
  · cases h
  · obtain ⟨k, hk⟩ := List.mem_iff_getElem?.1 hr
    refine ⟨k, ?_⟩
    unfold netO
    rw [List.getElem?_map, hk]
    show some (orgB ⟨(frPf x).f0, (frPf x).f1⟩ r) = some true
    unfold orgB
    have e : (⟨(frPf x).f0, (frPf x).f1⟩ : Pf) = x := rfl
    rw [e, decide_eq_true ((index_mem r.nets x).2 h)]
section
variable (a0 : Int) (ls : List Int) (mp : List (List Cfg.SU)) (ns nt ws : List Int)
theorem nm_inj : ∀ a b : Fin 8, (Cfg.nm a.val).data.toList = (Cfg.nm b.val).data.toList → a = b := by decide +kernel
theorem rout_at (k : Nat) (hk : k < (a0 % 8).toNat) : ((Cfg.crouts a0 ls mp ns nt ws).map toRt)[k]? = some (toRt (Cfg.rout ls mp.length ns nt ws (a0 % 8).toNat k)) := by
  unfold Cfg.crouts
  rw [List.getElem?_map, List.getElem?_map, List.getElem?_range hk]
  rfl
theorem atN_at : ∀ m, m ≤ (a0 % 8).toNat → ∀ j, j < m → atN ((Cfg.crouts a0 ls mp ns nt ws).map toRt) m (Cfg.nm j).data.toList = some (j : Int) := by
  intro m
  induction m with
  | zero => intro _ j hj; omega
  | succ m ih =>
    intro hm j hj
    have hr := rout_at a0 ls mp ns nt ws m (by omega)
    have hn : (toRt (Cfg.rout ls mp.length ns nt ws (a0 % 8).toNat m)).name = (Cfg.nm m).data.toList := rfl
    rw [atN, hr]
    show Go.Proofs.Ytncebbpnmpgjiaa.Map.upd _ _ _ _ = _
    rw [hn]
    by_cases e : j = m
    · subst e
      exact Go.Proofs.Ytncebbpnmpgjiaa.Map.upd_self _ _ _
    · have hne : (Cfg.nm j).data.toList ≠ (Cfg.nm m).data.toList := by
        intro h
        have := nm_inj ⟨j, by omega⟩ ⟨m, by omega⟩ h
        exact e (congrArg Fin.val this)
      rw [Go.Proofs.Ytncebbpnmpgjiaa.Map.upd_ne _ _ hne]
      exact ih (by omega) j (by omega)
theorem isL_symm (n k j : Nat) : Cfg.isL ls n k j = Cfg.isL ls n j k := by
  have e : (j == k) = (k == j) := by
    by_cases h : j = k
    · rw [h]
    · rw [beq_false_of_ne h, beq_false_of_ne (Ne.symm h)]
  unfold Cfg.isL
  rw [Nat.min_comm j k, Nat.max_comm j k, Bool.or_comm (j == k + 1), e]
/-- Whom a node's edges come from. -/
theorem edges_of (a b : Int) (k : Nat) (hk : k < (a0 % 8).toNat) : ∃ es, (netE (Cfg.cmaps mp) (Cfg.crouts a0 ls mp ns nt ws) a b)[k]? = some es ∧ (∀ e ∈ es, ∃ j : Nat, e.f0 = (j : Int) ∧ j < (a0 % 8).toNat ∧ Cfg.isL ls (a0 % 8).toNat k j = true) ∧ ∀ j : Nat, j < (a0 % 8).toNat → Cfg.isL ls (a0 % 8).toNat k j = true → ∃ e ∈ es, e.f0 = (j : Int) := by
  have hr := rout_at a0 ls mp ns nt ws k hk
  have hlen : ((Cfg.crouts a0 ls mp ns nt ws).map toRt).length = (a0 % 8).toNat := by
    unfold Cfg.crouts
    rw [List.length_map, List.length_map, List.length_range]
  have hlinks : (toRt (Cfg.rout ls mp.length ns nt ws (a0 % 8).toNat k)).links = (((List.range' 0 (a0 % 8).toNat).filter (Cfg.isL ls (a0 % 8).toNat k)).map (Cfg.lnk ls ns mp.length (a0 % 8).toNat k)).map toLk := rfl
  have hat := fun j hj => atN_at a0 ls mp ns nt ws (a0 % 8).toNat (Nat.le_refl _) j hj
  refine ⟨(edgesB ⟨a, b⟩ ((Cfg.cmaps mp).map toMp) ((Cfg.crouts a0 ls mp ns nt ws).map toRt) (toRt (Cfg.rout ls mp.length ns nt ws (a0 % 8).toNat k))).map frEd, ?_, ?_, ?_⟩
  · unfold netE
    rw [List.getElem?_map, List.getElem?_map, hr]
    rfl
  · intro e he
    obtain ⟨y, hy, rfl⟩ := List.mem_map.1 he
    unfold edgesB at hy
    obtain ⟨l, hl, hle⟩ := List.mem_filterMap.1 hy
    rw [hlinks, List.map_map] at hl
    obtain ⟨j, hj, rfl⟩ := List.mem_map.1 hl
    obtain ⟨hj1, hj2⟩ := List.mem_filter.1 hj
    have hjn : j < (a0 % 8).toNat := by
      have := List.mem_range'.1 hj1
      omega
    unfold edgeB at hle
    have hp : ((toLk ∘ Cfg.lnk ls ns mp.length (a0 % 8).toNat k) j).peer = (Cfg.nm j).data.toList := rfl
    rw [hlen, hp, hat j hjn] at hle
    obtain rfl := Option.some.inj hle
    exact ⟨j, rfl, hjn, hj2⟩
  · intro j hjn hj
    have hp : (toLk (Cfg.lnk ls ns mp.length (a0 % 8).toNat k j)).peer = (Cfg.nm j).data.toList := rfl
    obtain ⟨y, hy⟩ : ∃ y, edgeB ⟨a, b⟩ ((Cfg.cmaps mp).map toMp) ((Cfg.crouts a0 ls mp ns nt ws).map toRt) (toRt (Cfg.rout ls mp.length ns nt ws (a0 % 8).toNat k)) (toLk (Cfg.lnk ls ns mp.length (a0 % 8).toNat k j)) = some y ∧ y.frm = (j : Int) := by
      unfold edgeB
      rw [hlen, hp, hat j hjn]
      exact ⟨_, rfl, rfl⟩
    refine ⟨frEd y, List.mem_map.2 ⟨y, ?_, rfl⟩, hy.2⟩
    unfold edgesB
    refine List.mem_filterMap.2 ⟨_, ?_, hy.1⟩
    rw [hlinks]
    exact List.mem_map.2 ⟨_, List.mem_map.2 ⟨j, List.mem_filter.2 ⟨List.mem_range'.2 ⟨j, by omega, by omega⟩, hj⟩, rfl⟩, rfl⟩
end
end Go.Proofs.Ytncebbpnmpgjiaa.LoN
