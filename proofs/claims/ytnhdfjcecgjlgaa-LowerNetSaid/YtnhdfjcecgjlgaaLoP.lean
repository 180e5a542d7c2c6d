/- Plain law: what layer 13's own law tells of a network (index, clauses, net) is what lower.Net tells. -/
import Derived.Test.YtnhdfjcecgjlgaaJ6
import Derived.Test.YtnhdfjcecgjlgaaPNtx24
namespace Go.Proofs.Ytnhdfjcecgjlgaa.LoP
open Go.RowKit Go.Proofs.Ytnhdfjcecgjlgaa.PNt Go.Proofs.YtnhdfjcecgjlgaaW.PrintWords Go.Proofs.YtnhdfjcecgjlgaaW.PrintLast Go.Proofs.YtnhdfjcecgjlgaaW.PrintMore Go.Proofs.Ytnhdfjcecgjlgaa.Low Go.Proofs.Ytnhdfjcecgjlgaa.LiC Go.Proofs.Ytnhdfjcecgjlgaa.LoN
open Go.Proofs.Ytnhdfjcecgjlgaa.Mq (Pf Rt Cl Ed Mp Lk Wy Str)
open Go.Proofs.Ytnhdfjcecgjlgaa.Cls (forB)
open Go.Proofs.Ytnhdfjcecgjlgaa.Pfx (coversB mayB)
set_option linter.unusedVariables false
set_option linter.unusedSimpArgs false
set_option linter.all false
abbrev LK := S47
abbrev WY := S63
def Evt {α : Type} (F : Nat → Option α) (r : α) : Prop := ∃ K, ∀ k, K ≤ k → F k = some r
theorem Evt.step {α : Type} {F : Nat → Option α} {r : α} (K : Nat) (h : ∀ k, K ≤ k → F (k + 1) = some r) : Evt F r := by
  refine ⟨K + 1, fun k hk => ?_⟩
  obtain ⟨k', rfl⟩ : ∃ k', k = k' + 1 := ⟨k - 1, by omega⟩
  exact h k' (by omega)
theorem rdR {X : List RT} {i : Nat} {t : RT} (h : X[i]? = some t) : rd_T51 X (i : Int) = t := by
  unfold rd_T51
  rw [List.getD_eq_getElem?_getD, Int.toNat_natCast, h]
  rfl
theorem rdK {X : List LK} {i : Nat} {t : LK} (h : X[i]? = some t) : rd_T47 X (i : Int) = t := by
  unfold rd_T47
  rw [List.getD_eq_getElem?_getD, Int.toNat_natCast, h]
  rfl
theorem rdW {X : List WY} {i : Nat} {t : WY} (h : X[i]? = some t) : rd_T63 X (i : Int) = t := by
  unfold rd_T63
  rw [List.getD_eq_getElem?_getD, Int.toNat_natCast, h]
  rfl
theorem rdM {X : List MP} {i : Nat} {t : MP} (h : X[i]? = some t) : rd_T59 X (i : Int) = t := by
  unfold rd_T59
  rw [List.getD_eq_getElem?_getD, Int.toNat_natCast, h]
  rfl
theorem rdP {X : List P2} {i : Nat} {t : P2} (h : X[i]? = some t) : rd_T36 X (i : Int) = t := by
  unfold rd_T36
  rw [List.getD_eq_getElem?_getD, Int.toNat_natCast, h]
  rfl
theorem at_ {α : Type} {l : List α} {i d : Nat} (h : i + (d + 1) = l.length) : ∃ x, l[i]? = some x ∧ x ∈ l ∧ l.drop i = x :: l.drop (i + 1) := ⟨l[i], List.getElem?_eq_getElem (by omega), List.getElem_mem (by omega), List.drop_eq_getElem_cons (by omega)⟩
theorem nil_ {α : Type} {l : List α} {i : Nat} (h : i + 0 = l.length) : l.drop i = [] := List.drop_eq_nil_of_le (by omega)
theorem bl (x : ByteArray) : x.toList = x.data.toList := ByteArray.toList_eq x
def fI (s : Str) : List RT → Nat → Int
  | [], _ => -1
  | r :: rs, i => if r.f0.data.toList = s then (i : Int) else fI s rs (i + 1)
theorem index_l (R : List RT) (hR : R.length ≤ 1000) (x : ByteArray) : ∀ d i, i + d = R.length → Evt (fun k => maquettelaw13_index.l0 k x R (R.length : Int) (i : Int)) (fI x.data.toList (R.drop i) i)
  | 0, i, h => Evt.step 0 fun k _ => by
    rw [maquettelaw13_index.l0, if_neg (by omega), nil_ h]
    rfl
  | d + 1, i, h => by
    obtain ⟨K, hk⟩ := index_l R hR x d (i + 1) (by omega)
    obtain ⟨r, hr, -, hd⟩ := at_ h
    refine Evt.step K fun k hK => ?_
    rw [maquettelaw13_index.l0, if_pos (by omega), if_pos (by omega), if_pos (by omega), rdR hr, hd, bl, bl, fI]
    by_cases e : r.f0.data.toList = x.data.toList
    · rw [if_pos e, if_pos e]
    · rw [if_neg e, if_neg e, w1 (by omega)]
      exact hk k hK
def Unlike (R : List RT) : Prop := ∀ (i j : Nat) (x y : RT), R[i]? = some x → R[j]? = some y → x.f0.data.toList = y.f0.data.toList → i = j
def look (R : List RT) (s : Str) : Int := (atN (R.map toRt) (R.map toRt).length s).getD (-1)
theorem atN_none (R : List RT) (s : Str) (h : ∀ x ∈ R, x.f0.data.toList ≠ s) : ∀ m, atN (R.map toRt) m s = none
  | 0 => rfl
  | m + 1 => by
    rw [atN]
    cases e : (R.map toRt)[m]? with
    | none => exact atN_none R s h m
    | some r =>
      rw [List.getElem?_map] at e
      obtain ⟨x, hx, rfl⟩ := Option.map_eq_some_iff.1 e
      show Go.Proofs.Ytnhdfjcecgjlgaa.Map.upd _ _ _ _ = _
      rw [Go.Proofs.Ytnhdfjcecgjlgaa.Map.upd_ne _ _ (show s ≠ (toRt x).name from fun e => h x (List.mem_of_getElem? hx) e.symm)]
      exact atN_none R s h m
theorem atN_some (R : List RT) (hU : Unlike R) (j : Nat) (x : RT) (hx : R[j]? = some x) : ∀ m, j < m → m ≤ R.length → atN (R.map toRt) m x.f0.data.toList = some (j : Int)
  | 0, h, _ => absurd h (by omega)
  | m + 1, h, hm => by
    have e : (R.map toRt)[m]? = some (toRt R[m]) := by
      rw [List.getElem?_map, List.getElem?_eq_getElem (by omega)]
      rfl
    rw [atN, e]
    show Go.Proofs.Ytnhdfjcecgjlgaa.Map.upd _ _ _ _ = _
    by_cases q : j = m
    · subst q
      have : R[j] = x := by
        rw [List.getElem?_eq_getElem (by omega)] at hx
        exact Option.some.inj hx
      rw [this]
      exact Go.Proofs.Ytnhdfjcecgjlgaa.Map.upd_self _ _ _
    · rw [Go.Proofs.Ytnhdfjcecgjlgaa.Map.upd_ne _ _ (show x.f0.data.toList ≠ (toRt R[m]).name from fun e => q (hU j m x R[m] hx (List.getElem?_eq_getElem (by omega)) e))]
      exact atN_some R hU j x hx m (by omega) (by omega)
theorem fI_none (s : Str) : ∀ (R : List RT) i, (∀ x ∈ R, x.f0.data.toList ≠ s) → fI s R i = -1
  | [], _, _ => rfl
  | r :: R, i, h => by
    rw [fI, if_neg (h r (.head _))]
    exact fI_none s R (i + 1) fun x hx => h x (.tail _ hx)
theorem fI_some (s : Str) : ∀ (R : List RT) (i j : Nat) (x : RT), R[j]? = some x → x.f0.data.toList = s → (∀ (p : Nat) (y : RT), p < j → R[p]? = some y → y.f0.data.toList ≠ s) → fI s R i = ((i + j : Nat) : Int)
  | [], _, _, _, h, _, _ => by cases h
  | r :: R, i, 0, x, h, e, _ => by
    obtain rfl := Option.some.inj h
    rw [fI, if_pos e, Nat.add_zero]
  | r :: R, i, j + 1, x, h, e, hp => by
    rw [fI, if_neg (hp 0 r (by omega) rfl), fI_some s R (i + 1) j x h e fun p y hpj hy => hp (p + 1) y (by omega) hy]
    congr 1
    omega
theorem fI_look (R : List RT) (hU : Unlike R) (s : Str) : fI s R 0 = look R s := by
  unfold look
  rw [List.length_map]
  by_cases h : ∃ (j : Nat) (x : RT), R[j]? = some x ∧ x.f0.data.toList = s
  · obtain ⟨j, x, hx, rfl⟩ := h
    have hj := (List.getElem?_eq_some_iff.1 hx).1
    rw [fI_some _ R 0 j x hx rfl (fun p y hp hy e => by have := hU p j y x hy hx e; omega), atN_some R hU j x hx R.length hj (Nat.le_refl _), Nat.zero_add]
    rfl
  · have h2 : ∀ x ∈ R, x.f0.data.toList ≠ s := fun x hx e => by
      obtain ⟨j, hj⟩ := List.mem_iff_getElem?.1 hx
      exact h ⟨j, x, hj, e⟩
    rw [fI_none s R 0 h2, atN_none R s h2]
    rfl
theorem index_at (M : List MP) (R : List RT) (hR : R.length ≤ 1000) (hU : Unlike R) (x : ByteArray) : Evt (fun k => maquettelaw13_index.f k M R x) (look R x.data.toList) := by
  obtain ⟨K, h⟩ := index_l R hR x R.length 0 (by omega)
  refine ⟨K, fun k hk => ?_⟩
  rw [← fI_look R hU]
  exact h k hk
theorem peer_at (k : Nat) (x0 : ByteArray) (x1 : List P2) (x2 : List LK) (x3 : List WY) (x4 : Int) (n : ByteArray) : ∃ t, check_Peer.f k x0 x1 x2 x3 x4 n = some t ∧ t.2.2.2.1.data.toList = ((peerB (x2.map toLk) n.data.toList).getD lk0).exp := by
  refine ⟨_, rfl, ?_⟩
  show (Go.Proofs.Ytnhdfjcecgjlgaa.Mq.bs ((check_Peer.q x2 n).getD lk0).exp).data.toList = _
  rw [← bl, bs_list]
  rfl
theorem for_at (a b : Int) (C : List CL) (hC : C.length ≤ 1000) : Evt (fun k => clause_For.f k C a b) ((forB ⟨a, b⟩ (C.map toCl)).map frCl) := ⟨0, fun k _ => if_pos (by omega)⟩
theorem clauses_l (a b : Int) (M : List MP) (hM : M.length ≤ 1000) (hm : ∀ m ∈ M, m.f1.length ≤ 1000) (x : ByteArray) : ∀ d i, i + d = M.length → Evt (fun k => maquettelaw13_clauses.l0 k x M (M.length : Int) (i : Int) a b) ((clausesB ((M.drop i).map toMp) x.data.toList ⟨a, b⟩).map frCl)
  | 0, i, h => Evt.step 0 fun k _ => by
    rw [maquettelaw13_clauses.l0, if_neg (by omega), nil_ h]
    rfl
  | d + 1, i, h => by
    obtain ⟨m, hmi, hmm, hd⟩ := at_ h
    obtain ⟨K1, hk1⟩ := for_at a b m.f1 (hm m hmm)
    obtain ⟨K2, hk2⟩ := clauses_l a b M hM hm x d (i + 1) (by omega)
    refine Evt.step (K1 + K2) fun k hK => ?_
    have hk1 : clause_For.f k m.f1 a b = _ := hk1 k (by omega)
    have hk2 := hk2 k (by omega)
    unfold clausesB at hk2 ⊢
    rw [maquettelaw13_clauses.l0, if_pos (by omega), if_pos (by omega), if_pos (by omega), rdM hmi, hd, bl, bl, List.map_cons, List.find?_cons]
    by_cases e : m.f0.data.toList = x.data.toList
    · rw [if_pos e, show ((toMp m).name == x.data.toList) = true from beq_iff_eq.2 e, hk1]
      rfl
    · rw [if_neg e, show ((toMp m).name == x.data.toList) = false from beq_eq_false_iff_ne.2 e, w1 (by omega)]
      exact hk2
theorem clauses_at (a b : Int) (M : List MP) (R : List RT) (hM : M.length ≤ 1000) (hm : ∀ m ∈ M, m.f1.length ≤ 1000) (x : ByteArray) : Evt (fun k => maquettelaw13_clauses.f k M R x a b) ((clausesB (M.map toMp) x.data.toList ⟨a, b⟩).map frCl) := clauses_l a b M hM hm x M.length 0 (by omega)
structure Good (M : List MP) (R : List RT) : Prop where
  u : Unlike R
  m : M.length ≤ 1000
  p : ∀ r ∈ R, ∀ l ∈ r.f2, ∃ (j : Nat) (x : RT), R[j]? = some x ∧ x.f0.data.toList = l.f0.data.toList
section
variable (M : List MP) (R : List RT) (hF : Fit M R) (hG : Good M R) (a b : Int)
theorem look_some (hG : Good M R) (j : Nat) (x : RT) (h : R[j]? = some x) : atN (R.map toRt) (R.map toRt).length x.f0.data.toList = some (j : Int) := by
  have hj := (List.getElem?_eq_some_iff.1 h).1
  rw [List.length_map]
  exact atN_some R hG.u j x h R.length hj (Nat.le_refl _)
variable (O : List Bool) (S : List Int) (E : List (List ED))
theorem l3_at (hF : Fit M R) (hG : Good M R) (o : Bool) (v : Int) (c : Int) (r : RT) (hr : r ∈ R) (res : List Bool × List Int × List (List ED)) (hO : O.length ≤ 1000) (hS : S.length ≤ 1000) (hE : E.length ≤ 1000)
    (hnext : Evt (fun k => maquettelaw13_net.l0 k R (R.length : Int) (wrap64 (c + 1)) M R a b (O ++ [o]) (S ++ [v]) (E ++ [(edgesB ⟨a, b⟩ (M.map toMp) (R.map toRt) (toRt r)).map frEd])) res) :
    ∀ d i (acc : List ED), i + d = r.f2.length → acc = ((((r.f2.take i).map toLk).filterMap (edgeB ⟨a, b⟩ (M.map toMp) (R.map toRt) (toRt r))).map frEd) → acc.length ≤ i → Evt (fun k => maquettelaw13_net.l3 k o v acc R (R.length : Int) c r.f2 (r.f2.length : Int) (i : Int) M R a b O S E r.f0 r.f1 r.f2 r.f3 r.f4) res
  | 0, i, acc, h, e, _ => by
    obtain ⟨K, hk⟩ := hnext
    refine Evt.step K fun k hK => ?_
    have hk := hk k hK
    rw [List.take_of_length_le (by omega)] at e
    have e2 : acc = (edgesB ⟨a, b⟩ (M.map toMp) (R.map toRt) (toRt r)).map frEd := e
    rw [maquettelaw13_net.l3, if_neg (by omega), e2]
    simp only [Option.bind_some, List.length_singleton]
    rw [if_pos (by omega), if_pos (by omega), if_pos (by omega)]
    exact hk
  | d + 1, i, acc, h, e, ha => by
    obtain ⟨l, hl, hlm, -⟩ := at_ h
    obtain ⟨j, x, hx, hxn⟩ := hG.p r hr l hlm
    have hj := (List.getElem?_eq_some_iff.1 hx).1
    have hF1 := hF.l
    obtain ⟨hr1, hr2, hr3, hr4, hr5⟩ := hF.r r hr
    obtain ⟨hx1, hx2, hx3, hx4, hx5⟩ := hF.r x (List.mem_of_getElem? hx)
    have hlook : look R l.f0.data.toList = (j : Int) := by
      unfold look
      rw [← hxn, look_some M R hG j x hx]
      rfl
    have hed : edgeB ⟨a, b⟩ (M.map toMp) (R.map toRt) (toRt r) (toLk l) = some ⟨(j : Int), l.f1, clausesB (M.map toMp) ((peerB (x.f2.map toLk) r.f0.data.toList).getD lk0).exp ⟨a, b⟩, clausesB (M.map toMp) l.f2.data.toList ⟨a, b⟩⟩ := by
      unfold edgeB
      rw [show (toLk l).peer = x.f0.data.toList from hxn.symm, look_some M R hG j x hx, Option.map_some, Int.toNat_natCast, List.getElem?_map, hx]
      rfl
    obtain ⟨K1, h1⟩ := index_at M R hF1 hG.u l.f0
    obtain ⟨t, hpt, ht⟩ := peer_at 0 x.f0 x.f1 x.f2 x.f3 x.f4 r.f0
    obtain ⟨K3, h3⟩ := clauses_at a b M R hG.m hF.m t.2.2.2.1
    rw [ht] at h3
    obtain ⟨K4, h4⟩ := clauses_at a b M R hG.m hF.m l.f2
    obtain ⟨K5, h5⟩ := l3_at hF hG o v c r hr res hO hS hE hnext d (i + 1) (acc ++ [frEd ⟨(j : Int), l.f1, clausesB (M.map toMp) ((peerB (x.f2.map toLk) r.f0.data.toList).getD lk0).exp ⟨a, b⟩, clausesB (M.map toMp) l.f2.data.toList ⟨a, b⟩⟩]) (by omega) (by
      have ht : r.f2.take (i + 1) = r.f2.take i ++ [l] := by
        rw [List.take_add_one, hl]
        rfl
      rw [ht, List.map_append, List.filterMap_append, List.map_append, ← e, List.map_cons, List.map_nil, List.filterMap_cons, hed]
      rfl) (by rw [List.length_append, List.length_singleton]; omega)
    refine Evt.step (K1 + K3 + K4 + K5) fun k hK => ?_
    have h1 : maquettelaw13_index.f k M R l.f0 = _ := h1 k (by omega)
    have h2 : check_Peer.f k x.f0 x.f1 x.f2 x.f3 x.f4 r.f0 = some t := hpt
    have h3 : maquettelaw13_clauses.f k M R _ a b = _ := h3 k (by omega)
    have h4 : maquettelaw13_clauses.f k M R l.f2 a b = _ := h4 k (by omega)
    have h5 := h5 k (by omega)
    rw [maquettelaw13_net.l3, if_pos (by omega), if_pos (by omega), if_pos (by omega), rdK hl, h1, hlook, Option.bind_some, if_pos (by omega), if_pos (by omega), rdR hx, h2, Option.bind_some, h3, Option.bind_some, h4, Option.bind_some, Option.bind_some, if_pos (by simp only [List.length_singleton]; omega), w1 (by omega)]
    exact h5
def via (s : Str × Int) : Int := if 0 ≤ s.2 then look R s.1 else -1
theorem covers_bits (p q : Pf) (h : coversB p q = true) : 0 ≤ p.bits := by
  unfold coversB mayB at h
  simp only [Bool.and_eq_true, decide_eq_true_eq] at h
  exact h.1.1.1.1.1
theorem l2_at (hF : Fit M R) (hG : Good M R) (o : Bool) (c : Int) (r : RT) (hr : r ∈ R) (res : List Bool × List Int × List (List ED))
    (hnext : Evt (fun k => maquettelaw13_net.l3 k o (wayB ⟨a, b⟩ (R.map toRt) (toRt r)) [] R (R.length : Int) c r.f2 (r.f2.length : Int) 0 M R a b O S E r.f0 r.f1 r.f2 r.f3 r.f4) res) (hw : r.f3.length ≤ 1000000) :
    ∀ d i (s : Str × Int), i + d = r.f3.length → s = ((r.f3.take i).map toWy).foldl (staticS ⟨a, b⟩) ([], -1) → -1 ≤ s.2 → Evt (fun k => maquettelaw13_net.l2 k o (via R s) s.2 R (R.length : Int) c r.f3 (r.f3.length : Int) (i : Int) M R a b O S E r.f0 r.f1 r.f2 r.f3 r.f4) res
  | 0, i, s, h, e, _ => by
    obtain ⟨K, hk⟩ := hnext
    refine Evt.step K fun k hK => ?_
    have hk := hk k hK
    rw [List.take_of_length_le (by omega)] at e
    have e2 : via R s = wayB ⟨a, b⟩ (R.map toRt) (toRt r) := by
      rw [e]
      rfl
    rw [maquettelaw13_net.l2, if_neg (by omega), e2]
    exact hk
  | d + 1, i, s, h, e, hs => by
    obtain ⟨y, hy, hym, -⟩ := at_ h
    have ht : r.f3.take (i + 1) = r.f3.take i ++ [y] := by
      rw [List.take_add_one, hy]
      rfl
    have hn : staticS ⟨a, b⟩ s (toWy y) = ((r.f3.take (i + 1)).map toWy).foldl (staticS ⟨a, b⟩) ([], -1) := by
      rw [ht, List.map_append, List.foldl_append, ← e]
      rfl
    have hst : staticS ⟨a, b⟩ s (toWy y) = if (coversB ⟨y.f0.f0, y.f0.f1⟩ ⟨a, b⟩ && decide (s.2 < y.f0.f1)) = true then (y.f1.data.toList, y.f0.f1) else s := rfl
    have hcov : prefix_Covers.f y.f0.f0 y.f0.f1 a b = some (coversB ⟨y.f0.f0, y.f0.f1⟩ ⟨a, b⟩) := rfl
    by_cases hc : coversB ⟨y.f0.f0, y.f0.f1⟩ ⟨a, b⟩ = true
    · by_cases hb : s.2 < y.f0.f1
      · have h0 : 0 ≤ y.f0.f1 := covers_bits _ _ hc
        rw [if_pos (by rw [hc, decide_eq_true hb]; rfl)] at hst
        obtain ⟨K1, h1⟩ := index_at M R hF.l hG.u y.f1
        obtain ⟨K2, h2⟩ := l2_at hF hG o c r hr res hnext hw d (i + 1) (y.f1.data.toList, y.f0.f1) (by omega) (by rw [← hn, hst]) (by show -1 ≤ y.f0.f1; omega)
        refine Evt.step (K1 + K2) fun k hK => ?_
        have h1 : maquettelaw13_index.f k M R y.f1 = _ := h1 k (by omega)
        have h2 := h2 k (by omega)
        rw [show via R (y.f1.data.toList, y.f0.f1) = look R y.f1.data.toList from if_pos h0] at h2
        rw [maquettelaw13_net.l2, if_pos (by omega), if_pos (by omega), if_pos (by omega), rdW hy, hcov, Option.bind_some, if_pos hc, if_pos hb, h1, Option.bind_some, w1 (by omega)]
        exact h2
      · rw [if_neg (by rw [hc, decide_eq_false hb]; decide)] at hst
        obtain ⟨K2, h2⟩ := l2_at hF hG o c r hr res hnext hw d (i + 1) s (by omega) (by rw [← hn, hst]) hs
        refine Evt.step K2 fun k hK => ?_
        rw [maquettelaw13_net.l2, if_pos (by omega), if_pos (by omega), if_pos (by omega), rdW hy, hcov, Option.bind_some, if_pos hc, if_neg hb, w1 (by omega)]
        exact h2 k hK
    · have hc' : coversB ⟨y.f0.f0, y.f0.f1⟩ ⟨a, b⟩ = false := Bool.eq_false_iff.2 hc
      rw [if_neg (by rw [hc', Bool.false_and]; decide)] at hst
      obtain ⟨K2, h2⟩ := l2_at hF hG o c r hr res hnext hw d (i + 1) s (by omega) (by rw [← hn, hst]) hs
      refine Evt.step K2 fun k hK => ?_
      rw [maquettelaw13_net.l2, if_pos (by omega), if_pos (by omega), if_pos (by omega), rdW hy, hcov, Option.bind_some, if_neg hc, w1 (by omega)]
      exact h2 k hK
theorem l1_at (v w : Int) (c : Int) (r : RT) (hn : r.f1.length ≤ 1000) (res : List Bool × List Int × List (List ED)) (fin : Bool)
    (hnext : Evt (fun k => maquettelaw13_net.l2 k fin v w R (R.length : Int) c r.f3 (r.f3.length : Int) 0 M R a b O S E r.f0 r.f1 r.f2 r.f3 r.f4) res) :
    ∀ d i (o : Bool), i + d = r.f1.length → (o || (r.f1.drop i).any (fun p => p.f0 == a && p.f1 == b)) = fin → Evt (fun k => maquettelaw13_net.l1 k o v w R (R.length : Int) c r.f1 (r.f1.length : Int) (i : Int) M R a b O S E r.f0 r.f1 r.f2 r.f3 r.f4) res
  | 0, i, o, h, e => by
    obtain ⟨K, hk⟩ := hnext
    refine Evt.step K fun k hK => ?_
    rw [nil_ h, List.any_nil, Bool.or_false] at e
    rw [maquettelaw13_net.l1, if_neg (by omega), e]
    exact hk k hK
  | d + 1, i, o, h, e => by
    obtain ⟨p, hp, -, hd⟩ := at_ h
    rw [hd, List.any_cons] at e
    cases o with
    | true =>
      obtain ⟨K, hk⟩ := l1_at v w c r hn res fin hnext d (i + 1) true (by omega) (by rw [← e, Bool.true_or, Bool.true_or])
      refine Evt.step K fun k hK => ?_
      rw [maquettelaw13_net.l1, if_pos (by omega), if_pos (by omega), if_pos (by omega), if_pos rfl, w1 (by omega)]
      exact hk k hK
    | false =>
      obtain ⟨K, hk⟩ := l1_at v w c r hn res fin hnext d (i + 1) (p.f0 == a && p.f1 == b) (by omega) (by rw [← e, Bool.false_or])
      refine Evt.step K fun k hK => ?_
      rw [maquettelaw13_net.l1, if_pos (by omega), if_pos (by omega), if_pos (by omega), if_neg (by decide), w1 (by omega), rdP hp]
      exact hk k hK
end
theorem org_any (r : RT) (a b : Int) : r.f1.any (fun p => p.f0 == a && p.f1 == b) = orgB ⟨a, b⟩ (toRt r) := by
  unfold orgB
  have h : (0 ≤ indexB (toRt r).nets ⟨a, b⟩) ↔ ∃ p ∈ r.f1, p.f0 = a ∧ p.f1 = b := by
    rw [index_mem]
    constructor
    · intro h
      obtain ⟨p, hp, e⟩ := List.mem_map.1 (show (⟨a, b⟩ : Pf) ∈ r.f1.map toPf from h)
      have e1 := congrArg Pf.addr e
      have e2 := congrArg Pf.bits e
      exact ⟨p, hp, e1, e2⟩
    · rintro ⟨p, hp, rfl, rfl⟩
      exact List.mem_map.2 ⟨p, hp, rfl⟩
  rw [Bool.eq_iff_iff, List.any_eq_true, decide_eq_true_iff, h]
  simp only [Bool.and_eq_true, beq_iff_eq]
theorem l0_at (M : List MP) (R : List RT) (hF : Fit M R) (hG : Good M R) (hw : ∀ r ∈ R, r.f3.length ≤ 1000000) (a b : Int) : ∀ d i, i + d = R.length → Evt (fun k => maquettelaw13_net.l0 k R (R.length : Int) (i : Int) M R a b ((netO R a b).take i) ((netS R a b).take i) ((netE M R a b).take i)) (netO R a b, netS R a b, netE M R a b)
  | 0, i, h => Evt.step 0 fun k _ => by
    have h1 : (netO R a b).length ≤ i := by unfold netO; rw [List.length_map, List.length_map]; omega
    have h2 : (netS R a b).length ≤ i := by unfold netS; rw [List.length_map, List.length_map]; omega
    have h3 : (netE M R a b).length ≤ i := by unfold netE; rw [List.length_map, List.length_map, List.length_map]; omega
    rw [maquettelaw13_net.l0, if_neg (by omega), List.take_of_length_le h1, List.take_of_length_le h2, List.take_of_length_le h3]
  | d + 1, i, h => by
    obtain ⟨r, hr, hrm, -⟩ := at_ h
    have hl := hF.l
    obtain ⟨hr1, hr2, hr3, hr4, hr5⟩ := hF.r r hrm
    have ih := l0_at M R hF hG hw a b d (i + 1) (by omega)
    have t1 : (netO R a b).take (i + 1) = (netO R a b).take i ++ [orgB ⟨a, b⟩ (toRt r)] := by
      rw [List.take_add_one]
      unfold netO
      rw [List.getElem?_map, List.getElem?_map, hr]
      rfl
    have t2 : (netS R a b).take (i + 1) = (netS R a b).take i ++ [wayB ⟨a, b⟩ (R.map toRt) (toRt r)] := by
      rw [List.take_add_one]
      unfold netS
      rw [List.getElem?_map, List.getElem?_map, hr]
      rfl
    have t3 : (netE M R a b).take (i + 1) = (netE M R a b).take i ++ [(edgesB ⟨a, b⟩ (M.map toMp) (R.map toRt) (toRt r)).map frEd] := by
      rw [List.take_add_one]
      unfold netE
      rw [List.getElem?_map, List.getElem?_map, List.getElem?_map, hr]
      rfl
    rw [t1, t2, t3, ← w1 (by omega)] at ih
    have b1 : ((netO R a b).take i).length ≤ 1000 := Nat.le_trans (List.length_take_le _ _) (by omega)
    have b2 : ((netS R a b).take i).length ≤ 1000 := Nat.le_trans (List.length_take_le _ _) (by omega)
    have b3 : ((netE M R a b).take i).length ≤ 1000 := Nat.le_trans (List.length_take_le _ _) (by omega)
    have h3 := l3_at M R a b _ _ _ hF hG (orgB ⟨a, b⟩ (toRt r)) (wayB ⟨a, b⟩ (R.map toRt) (toRt r)) (i : Int) r hrm _ b1 b2 b3 ih r.f2.length 0 [] (by omega) rfl (Nat.le_refl _)
    have h2 := l2_at M R a b _ _ _ hF hG (orgB ⟨a, b⟩ (toRt r)) (i : Int) r hrm _ h3 (hw r hrm) r.f3.length 0 ([], -1) (by omega) rfl (by decide)
    obtain ⟨K, hk⟩ := l1_at M R a b _ _ _ (-1) (-1) (i : Int) r hr2 _ (orgB ⟨a, b⟩ (toRt r)) h2 r.f1.length 0 false (by omega) (by rw [Bool.false_or, List.drop_zero, org_any])
    refine Evt.step K fun k hK => ?_
    rw [maquettelaw13_net.l0, if_pos (by omega), if_pos (by omega), if_pos (by omega), rdR hr]
    exact hk k hK
theorem lnet_at (M : List MP) (R : List RT) (hF : Fit M R) (hG : Good M R) (hw : ∀ r ∈ R, r.f3.length ≤ 1000000) (a b : Int) : Evt (fun k => maquettelaw13_net.f k M R a b) (netO R a b, netS R a b, netE M R a b) := l0_at M R hF hG hw a b R.length 0 (by omega)
end Go.Proofs.Ytnhdfjcecgjlgaa.LoP
