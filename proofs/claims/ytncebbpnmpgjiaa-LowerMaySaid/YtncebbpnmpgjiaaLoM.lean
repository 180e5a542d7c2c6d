/- Plain law: LowerMay answers true. -/
import Derived.Test.YtncebbpnmpgjiaaLoN
import Derived.Test.YtncebbpnmpgjiaaPMmx13
namespace Go.Proofs.Ytncebbpnmpgjiaa.LoM
open Go.RowKit Go.Proofs.Ytncebbpnmpgjiaa.PMm Go.Proofs.YtncebbpnmpgjiaaW.PrintWords Go.Proofs.YtncebbpnmpgjiaaW.PrintLast Go.Proofs.YtncebbpnmpgjiaaW.PrintMore Go.Proofs.Ytncebbpnmpgjiaa.Low Go.Proofs.Ytncebbpnmpgjiaa.LiC Go.Proofs.Ytncebbpnmpgjiaa.LoN
set_option linter.unusedVariables false
set_option linter.unusedSimpArgs false
set_option linter.all false
theorem rdE {X : List ED} {i : Nat} {t : ED} (h : X[i]? = some t) : rd_T46 X (i : Int) = t := by
  unfold rd_T46
  rw [List.getD_eq_getElem?_getD, Int.toNat_natCast, h]
  rfl
theorem rdP {X : List P2} {i : Nat} {t : P2} (h : X[i]? = some t) : rd_T36 X (i : Int) = t := by
  unfold rd_T36
  rw [List.getD_eq_getElem?_getD, Int.toNat_natCast, h]
  rfl
theorem rdL {X : List (List ED)} {i : Nat} {t : List ED} (h : X[i]? = some t) : rd_L21 X (i : Int) = t := by
  unfold rd_L21
  rw [List.getD_eq_getElem?_getD, Int.toNat_natCast, h]
  rfl
section
variable (C : List P2) (n c : Int) (M : List MP) (R : List RT) (O : List Bool) (S : List Int) (E : List (List ED)) (en : Int)
theorem l3_at (x9 : Bool) (i : Int) (q : Int) (es : List ED) (esn : Int) (j : Nat) (hj : j < 1000000) (F : List ED) (hF : F.length ≤ 1000000) (hnext : ∃ k, maquettelaw13_LowerMay.l2 k x9 q C n c E en i es esn ((j + 1 : Nat) : Int) M R O S E = some true) : ∀ d p b, p + d = F.length → (b = true ∨ ∃ f ∈ F.drop p, f.f0 = q) → ∃ k, maquettelaw13_LowerMay.l3 k x9 q b C n c E en i es esn (j : Int) F (F.length : Int) (p : Int) M R O S E = some true
  | 0, p, b, h, hb => by
    obtain ⟨k, hk⟩ := hnext
    have hbt : b = true := by
      rcases hb with hb | ⟨f, hf, -⟩
      · exact hb
      · rw [List.drop_eq_nil_of_le (by omega)] at hf
        cases hf
    refine ⟨k + 1, ?_⟩
    rw [maquettelaw13_LowerMay.l3, if_neg (by omega), if_pos hbt, w1 (by omega)]
    exact hk
  | d + 1, p, b, h, hb => by
    have hp : F[p]? = some F[p] := List.getElem?_eq_getElem (by omega)
    cases b with
    | true =>
      obtain ⟨k, hk⟩ := l3_at x9 i q es esn j hj F hF hnext d (p + 1) true (by omega) (.inl rfl)
      refine ⟨k + 1, ?_⟩
      rw [maquettelaw13_LowerMay.l3, if_pos (by omega), if_pos (by omega), if_pos (by omega), if_pos rfl, w1 (by omega)]
      exact hk
    | false =>
      obtain ⟨k, hk⟩ := l3_at x9 i q es esn j hj F hF hnext d (p + 1) (F[p].f0 == q) (by omega) (by
        rcases hb with hb | ⟨f, hf, hq⟩
        · cases hb
        · rw [List.drop_eq_getElem_cons (by omega)] at hf
          rcases List.mem_cons.1 hf with e | hf
          · exact .inl (by rw [← e, hq]; exact beq_self_eq_true q)
          · exact .inr ⟨f, hf, hq⟩)
      refine ⟨k + 1, ?_⟩
      rw [maquettelaw13_LowerMay.l3, if_pos (by omega), if_pos (by omega), if_pos (by omega), if_neg (by simp), w1 (by omega), rdE hp]
      exact hk
theorem l2_at (hE : ∀ es ∈ E, es.length ≤ 1000000) (hEl : E.length ≤ 1000000) (x9 : Bool) (i : Nat) (hi : i < 1000000) (es : List ED) (hes : es.length ≤ 1000000) (hback : ∀ e ∈ es, ∃ (j : Nat) (F : List ED), e.f0 = (j : Int) ∧ E[j]? = some F ∧ ∃ f ∈ F, f.f0 = (i : Int)) (hnext : ∃ k, maquettelaw13_LowerMay.l1 k x9 C n c E en ((i + 1 : Nat) : Int) M R O S E = some true) : ∀ d j, j + d = es.length → ∃ k, maquettelaw13_LowerMay.l2 k x9 (i : Int) C n c E en (i : Int) es (es.length : Int) (j : Int) M R O S E = some true
  | 0, j, h => by
    obtain ⟨k, hk⟩ := hnext
    refine ⟨k + 1, ?_⟩
    rw [maquettelaw13_LowerMay.l2, if_neg (by omega), w1 (by omega)]
    exact hk
  | d + 1, j, h => by
    have ih := l2_at hE hEl x9 i hi es hes hback hnext d (j + 1) (by omega)
    have hj : es[j]? = some es[j] := List.getElem?_eq_getElem (by omega)
    obtain ⟨t, F, h0, hF, f, hf, hfi⟩ := hback es[j] (List.getElem_mem (by omega))
    have htl := (List.getElem?_eq_some_iff.1 hF).1
    obtain ⟨k, hk⟩ := l3_at C n c M R O S E en x9 (i : Int) (i : Int) es (es.length : Int) j (by omega) F (hE F (List.mem_of_getElem? hF)) ih F.length 0 false (by omega) (.inr ⟨f, by rw [List.drop_zero]; exact hf, hfi⟩)
    refine ⟨k + 1, ?_⟩
    rw [maquettelaw13_LowerMay.l2, if_pos (by omega), if_pos (by omega), if_pos (by omega), rdE hj, h0, if_pos (by omega), if_pos (by omega), rdL hF]
    exact hk
theorem l1_at (hE : ∀ es ∈ E, es.length ≤ 1000000) (hEl : E.length ≤ 1000000) (hO : O.length = E.length) (hS : S.length = E.length) (hback : ∀ (i : Nat) es, E[i]? = some es → ∀ e ∈ es, ∃ (j : Nat) (F : List ED), e.f0 = (j : Int) ∧ E[j]? = some F ∧ ∃ f ∈ F, f.f0 = (i : Int)) (hnext : ∃ k, maquettelaw13_LowerMay.l0 k C n (wrap64 (c + 1)) M R = some true) : ∀ d (i : Nat) x9, i + d = E.length → (x9 = true ∨ ∃ p : Nat, i ≤ p ∧ O[p]? = some true) → ∃ k, maquettelaw13_LowerMay.l1 k x9 C n c E (E.length : Int) (i : Int) M R O S E = some true
  | 0, i, x9, h, hx => by
    obtain ⟨k, hk⟩ := hnext
    have hxt : x9 = true := by
      rcases hx with hx | ⟨p, hp, ho⟩
      · exact hx
      · have := (List.getElem?_eq_some_iff.1 ho).1
        omega
    refine ⟨k + 1, ?_⟩
    rw [maquettelaw13_LowerMay.l1, if_neg (by omega), if_pos hxt, if_pos (by omega), if_pos (by omega)]
    exact hk
  | d + 1, i, x9, h, hx => by
    have hEi : E[i]? = some E[i] := List.getElem?_eq_getElem (by omega)
    have hOi : O[i]? = some O[i] := List.getElem?_eq_getElem (by omega)
    have hlen := hE E[i] (List.getElem_mem (by omega))
    cases x9 with
    | true =>
      have ih := l1_at hE hEl hO hS hback hnext d (i + 1) true (by omega) (.inl rfl)
      obtain ⟨k, hk⟩ := l2_at C n c M R O S E (E.length : Int) hE hEl true i (by omega) E[i] hlen (hback i _ hEi) ih E[i].length 0 (by omega)
      refine ⟨k + 1, ?_⟩
      rw [maquettelaw13_LowerMay.l1, if_pos (by omega), if_pos (by omega), if_pos (by omega), if_pos rfl, rdL hEi]
      exact hk
    | false =>
      have ih := l1_at hE hEl hO hS hback hnext d (i + 1) O[i] (by omega) (by
        rcases hx with hx | ⟨p, hp, ho⟩
        · cases hx
        · by_cases e : p = i
          · subst e
            rw [hOi] at ho
            exact .inl (Option.some.inj ho)
          · exact .inr ⟨p, by omega, ho⟩)
      obtain ⟨k, hk⟩ := l2_at C n c M R O S E (E.length : Int) hE hEl O[i] i (by omega) E[i] hlen (hback i _ hEi) ih E[i].length 0 (by omega)
      have hrd : rdOf false O (i : Int) = O[i] := by
        unfold rdOf
        rw [List.getD_eq_getElem?_getD, Int.toNat_natCast, hOi]
        rfl
      refine ⟨k + 1, ?_⟩
      rw [maquettelaw13_LowerMay.l1, if_pos (by omega), if_pos (by omega), if_pos (by omega), if_neg (by simp), if_pos (by omega), hrd, rdL hEi]
      exact hk
end
theorem l0_at (M : List MP) (R : List RT) (hF : Fit M R) (hback : ∀ a b (i : Nat) es, (netE M R a b)[i]? = some es → ∀ e ∈ es, ∃ (j : Nat) (F : List ED), e.f0 = (j : Int) ∧ (netE M R a b)[j]? = some F ∧ ∃ f ∈ F, f.f0 = (i : Int)) (hlen : ∀ a b, ∀ es ∈ netE M R a b, es.length ≤ 1000000) (hcl : (cls R).length ≤ 1000000000) : ∀ d c, c + d = (cls R).length → ∃ k, maquettelaw13_LowerMay.l0 k (cls R) ((cls R).length : Int) (c : Int) M R = some true
  | 0, c, h => ⟨1, by rw [maquettelaw13_LowerMay.l0, if_neg (by omega)]⟩
  | d + 1, c, h => by
    obtain ⟨k, hk⟩ := l0_at M R hF hback hlen hcl d (c + 1) (by omega)
    have hc : (cls R)[c]? = some (cls R)[c] := List.getElem?_eq_getElem (by omega)
    have hol := hF.l
    have hEl : (netE M R (cls R)[c].f0 (cls R)[c].f1).length = R.length := by
      unfold netE
      rw [List.length_map, List.length_map, List.length_map]
    have hOl : (netO R (cls R)[c].f0 (cls R)[c].f1).length = R.length := by
      unfold netO
      rw [List.length_map, List.length_map]
    have hSl : (netS R (cls R)[c].f0 (cls R)[c].f1).length = R.length := by
      unfold netS
      rw [List.length_map, List.length_map]
    obtain ⟨p, hp⟩ := has_origin R _ (List.getElem_mem (show c < (cls R).length by omega))
    obtain ⟨k2, hk2⟩ := l1_at (cls R) ((cls R).length : Int) (c : Int) M R (netO R (cls R)[c].f0 (cls R)[c].f1) (netS R (cls R)[c].f0 (cls R)[c].f1) (netE M R (cls R)[c].f0 (cls R)[c].f1) (hlen _ _) (by omega) (by omega) (by omega) (hback (cls R)[c].f0 (cls R)[c].f1) ⟨k, by rw [w1 (by omega)]; exact hk⟩ (netE M R (cls R)[c].f0 (cls R)[c].f1).length 0 false (by omega) (.inr ⟨p, by omega, hp⟩)
    refine ⟨k2 + 1, ?_⟩
    rw [maquettelaw13_LowerMay.l0, if_pos (by omega), if_pos (by omega), if_pos (by omega), rdP hc, net_at M R hF, Option.bind_some]
    exact hk2
theorem awake_ok : maquettelaw13_awake.f = some true := by
  unfold maquettelaw13_awake.f
  decide +kernel
theorem lmay {a0 : Int} {ls : List Int} {mp : List (List Cfg.SU)} {ns nt ws : List Int} (h : Cfg.Shape a0 ls mp ns nt ws) (a1 : Int) : ∃ k, maquettelaw13_LowerMay.f k a0 ls mp ns nt ws a1 = some true := by
  obtain ⟨K, hK⟩ := Cfg.config_at h
  have hF := config_fit h
  have hcl : (cls (Cfg.crouts a0 ls mp ns nt ws)).length ≤ 1000000000 := by
    unfold cls classesB netsB
    rw [List.length_map, List.length_mergeSort]
    have h1 := nets_len ((Cfg.crouts a0 ls mp ns nt ws).map toRt) []
    have hs : ∀ (X : List RT), (∀ r ∈ X, r.f1.length ≤ 1000) → tot (X.map toRt) ≤ X.length * 1000 := by
      intro X
      induction X with
      | nil => intro _; exact Nat.le_refl _
      | cons r X ih =>
        intro h
        have h1 := ih fun x hx => h x (.tail _ hx)
        have h2 := h r (.head _)
        have h3 : (toRt r).nets.length = r.f1.length := List.length_map _
        unfold tot at h1 ⊢
        simp only [List.map_cons, List.sum_cons, List.length_cons]
        omega
    have h2 := hs _ fun r hr => (hF.r r hr).2.1
    have h3 := hF.l
    simp only [List.length_nil] at h1
    omega
  have hn : ∀ a b, (netE (Cfg.cmaps mp) (Cfg.crouts a0 ls mp ns nt ws) a b).length = (a0 % 8).toNat := by
    intro a b
    unfold netE Cfg.crouts
    rw [List.length_map, List.length_map, List.length_map, List.length_map, List.length_range]
  obtain ⟨k, hk⟩ := l0_at (Cfg.cmaps mp) (Cfg.crouts a0 ls mp ns nt ws) hF (fun a b i es hes e he => by
      have hi := (List.getElem?_eq_some_iff.1 hes).1
      rw [hn] at hi
      obtain ⟨es', h1, h2, -⟩ := edges_of a0 ls mp ns nt ws a b i hi
      rw [h1] at hes
      obtain rfl := Option.some.inj hes
      obtain ⟨j, e1, hj, hL⟩ := h2 e he
      obtain ⟨F, q1, -, q3⟩ := edges_of a0 ls mp ns nt ws a b j hj
      obtain ⟨f, hf, hfi⟩ := q3 i hi (by rw [isL_symm]; exact hL)
      exact ⟨j, F, e1, q1, f, hf, hfi⟩) (fun a b es hes => by
      unfold netE at hes
      obtain ⟨es', hes', rfl⟩ := List.mem_map.1 hes
      obtain ⟨r', hr', rfl⟩ := List.mem_map.1 hes'
      obtain ⟨r, hr, rfl⟩ := List.mem_map.1 hr'
      have hr1 := hF.r r hr
      rw [List.length_map]
      unfold edgesB
      refine Nat.le_trans (List.length_filterMap_le _ _) ?_
      show (r.f2.map toLk).length ≤ _
      rw [List.length_map]
      omega) hcl (cls (Cfg.crouts a0 ls mp ns nt ws)).length 0 (by omega)
  refine ⟨K + k, ?_⟩
  unfold maquettelaw13_LowerMay.f
  rw [awake_ok, Option.bind_some, if_pos rfl, hK _ (by omega), Option.bind_some, classes_at _ _ hF, Option.bind_some]
  exact up (F := fun k => maquettelaw13_LowerMay.l0 k (cls (Cfg.crouts a0 ls mp ns nt ws)) ((cls (Cfg.crouts a0 ls mp ns nt ws)).length : Int) 0 (Cfg.cmaps mp) (Cfg.crouts a0 ls mp ns nt ws)) (fun k => (maquettelaw13_LowerMay.mono_l k).1 _ _ _ _ _) (by omega : k ≤ K + k) hk
end Go.Proofs.Ytncebbpnmpgjiaa.LoM
