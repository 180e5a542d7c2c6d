/- Plain law: a network is the same as itself; LowerNet answers true. -/
import Derived.Test.YtnhdfjcecgjlgaaLoP
import Derived.Test.YtnhdfjcecgjlgaaPNtx25
namespace Go.Proofs.Ytnhdfjcecgjlgaa.LoQ
open Go.RowKit Go.Proofs.Ytnhdfjcecgjlgaa.PNt Go.Proofs.YtnhdfjcecgjlgaaW.PrintWords Go.Proofs.YtnhdfjcecgjlgaaW.PrintLast Go.Proofs.YtnhdfjcecgjlgaaW.PrintMore Go.Proofs.Ytnhdfjcecgjlgaa.Low Go.Proofs.Ytnhdfjcecgjlgaa.LiC Go.Proofs.Ytnhdfjcecgjlgaa.LoN Go.Proofs.Ytnhdfjcecgjlgaa.LoP
open Go.Proofs.Ytnhdfjcecgjlgaa.Mq (Pf Rt Cl Ed Mp Lk Wy Str)
set_option linter.unusedVariables false
set_option linter.unusedSimpArgs false
set_option linter.all false
theorem rdE {X : List ED} {i : Nat} {t : ED} (h : X[i]? = some t) : rd_T55 X (i : Int) = t := by
  unfold rd_T55; rw [List.getD_eq_getElem?_getD, Int.toNat_natCast, h]; rfl
theorem rdL {X : List (List ED)} {i : Nat} {t : List ED} (h : X[i]? = some t) : rd_L21 X (i : Int) = t := by
  unfold rd_L21; rw [List.getD_eq_getElem?_getD, Int.toNat_natCast, h]; rfl
theorem sc_l (C : List CL) (hC : C.length ≤ 1000000) : ∀ d i, i + d = C.length → Evt (fun k => maquettelaw13_SameClauses.l0 k C C (C.length : Int) (i : Int)) true
  | 0, i, h => Evt.step 0 fun k _ => by rw [maquettelaw13_SameClauses.l0, if_neg (by omega)]
  | d + 1, i, h => by
    obtain ⟨K, hk⟩ := sc_l C hC d (i + 1) (by omega); (refine Evt.step K fun k hK => ?_); rw [maquettelaw13_SameClauses.l0, if_pos (by omega), if_pos (by omega), if_pos (by omega), if_pos (by omega), if_neg (by simp), w1 (by omega)]; exact hk k hK
theorem sc_at (C : List CL) (hC : C.length ≤ 1000000) : Evt (fun k => maquettelaw13_SameClauses.f k C C) true := by
  obtain ⟨K, hk⟩ := sc_l C hC C.length 0 (by omega); refine ⟨K, fun k hK => ?_⟩; exact (if_pos rfl).trans (hk k hK)
section
variable (O : List Bool) (S : List Int) (E : List (List ED))
theorem s3_at (t : Nat) (es : List ED) (hE : E[t]? = some es) (hes : es.length ≤ 1000000) (hc : ∀ e ∈ es, e.f2.length ≤ 1000000 ∧ e.f3.length ≤ 1000000) (n : Int) (hnext : Evt (fun k => maquettelaw13_Same.l2 k n (wrap64 ((t : Int) + 1)) O S E O S E) true) : ∀ d i, i + d = es.length → Evt (fun k => maquettelaw13_Same.l3 k (t : Int) n (t : Int) es (es.length : Int) (i : Int) O S E O S E) true
  | 0, i, h => by
    obtain ⟨K, hk⟩ := hnext; (refine Evt.step K fun k hK => ?_); rw [maquettelaw13_Same.l3, if_neg (by omega)]; exact hk k hK
  | d + 1, i, h => by
    obtain ⟨e, he, hem, -⟩ := at_ h; have ht := (List.getElem?_eq_some_iff.1 hE).1; obtain ⟨K1, h1⟩ := sc_at e.f2 (hc e hem).1; obtain ⟨K2, h2⟩ := sc_at e.f3 (hc e hem).2; obtain ⟨K3, h3⟩ := s3_at t es hE hes hc n hnext d (i + 1) (by omega); (refine Evt.step (K1 + K2 + K3) fun k hK => ?_); have h1 : maquettelaw13_SameClauses.f k e.f2 e.f2 = _ := h1 k (by omega); have h2 : maquettelaw13_SameClauses.f k e.f3 e.f3 = _ := h2 k (by omega); rw [maquettelaw13_Same.l3, if_pos (by omega), if_pos (by omega), if_pos (by omega), if_pos (by omega), if_pos (by omega), rdL hE, if_pos (by omega), rdE he, if_pos rfl, if_pos rfl, h1, Option.bind_some, if_pos rfl, h2, Option.bind_some, if_pos rfl, w1 (by omega)]; exact h3 k (by omega)
theorem s2_at (hl : E.length ≤ 1000000) (hE : ∀ es ∈ E, es.length ≤ 1000000 ∧ ∀ e ∈ es, e.f2.length ≤ 1000000 ∧ e.f3.length ≤ 1000000) : ∀ d t, t + d = E.length → Evt (fun k => maquettelaw13_Same.l2 k (E.length : Int) (t : Int) O S E O S E) true
  | 0, t, h => Evt.step 0 fun k _ => by rw [maquettelaw13_Same.l2, if_neg (by omega)]
  | d + 1, t, h => by
    obtain ⟨es, he, hem, -⟩ := at_ h; have ih := s2_at hl hE d (t + 1) (by omega); rw [← w1 (by omega)] at ih; obtain ⟨K, hk⟩ := s3_at O S E t es he (hE es hem).1 (hE es hem).2 (E.length : Int) ih es.length 0 (by omega); (refine Evt.step K fun k hK => ?_); rw [maquettelaw13_Same.l2, if_pos (by omega), if_pos (by omega), if_pos (by omega), if_pos (by omega), if_pos rfl, rdL he]; exact hk k hK
theorem s1_at (hS : S.length ≤ 1000000) (hnext : Evt (fun k => maquettelaw13_Same.l2 k (E.length : Int) 0 O S E O S E) true) : ∀ d t, t + d = S.length → Evt (fun k => maquettelaw13_Same.l1 k (S.length : Int) (t : Int) O S E O S E) true
  | 0, t, h => by
    obtain ⟨K, hk⟩ := hnext; (refine Evt.step K fun k hK => ?_); rw [maquettelaw13_Same.l1, if_neg (by omega)]; exact hk k hK
  | d + 1, t, h => by
    obtain ⟨K, hk⟩ := s1_at hS hnext d (t + 1) (by omega); (refine Evt.step K fun k hK => ?_); rw [maquettelaw13_Same.l1, if_pos (by omega), if_pos (by omega), if_pos (by omega), if_pos (by omega), if_pos rfl, w1 (by omega)]; exact hk k hK
theorem s0_at (hO : O.length ≤ 1000000) (hnext : Evt (fun k => maquettelaw13_Same.l1 k (S.length : Int) 0 O S E O S E) true) : ∀ d t, t + d = O.length → Evt (fun k => maquettelaw13_Same.l0 k (O.length : Int) (t : Int) O S E O S E) true
  | 0, t, h => by
    obtain ⟨K, hk⟩ := hnext; (refine Evt.step K fun k hK => ?_); rw [maquettelaw13_Same.l0, if_neg (by omega)]; exact hk k hK
  | d + 1, t, h => by
    obtain ⟨K, hk⟩ := s0_at hO hnext d (t + 1) (by omega); (refine Evt.step K fun k hK => ?_); rw [maquettelaw13_Same.l0, if_pos (by omega), if_pos (by omega), if_pos (by omega), if_pos (by omega), if_neg (by simp), w1 (by omega)]; exact hk k hK
theorem same_at (hO : O.length ≤ 1000000) (hS : S.length ≤ 1000000) (hl : E.length ≤ 1000000) (hE : ∀ es ∈ E, es.length ≤ 1000000 ∧ ∀ e ∈ es, e.f2.length ≤ 1000000 ∧ e.f3.length ≤ 1000000) : Evt (fun k => maquettelaw13_Same.f k O S E O S E) true := by
  obtain ⟨K, hk⟩ := s0_at O S E hO (s1_at O S E hS (s2_at O S E hl hE E.length 0 (by omega)) S.length 0 (by omega)) O.length 0 (by omega); refine ⟨K + 1, fun k hK => ?_⟩; obtain ⟨k', rfl⟩ : ∃ k', k = k' + 1 := ⟨k - 1, by omega⟩; refine (if_pos rfl).trans ((if_pos rfl).trans ?_); rw [maquettelaw13_Same.j0, if_neg (by simp)]; exact hk k' (by omega)
end
theorem netE_len (M : List MP) (R : List RT) (hF : Fit M R) (a b : Int) : ∀ es ∈ netE M R a b, es.length ≤ 1000000 ∧ ∀ e ∈ es, e.f2.length ≤ 1000000 ∧ e.f3.length ≤ 1000000 := by
  intro es hes; unfold netE at hes; obtain ⟨es', hes', rfl⟩ := List.mem_map.1 hes; obtain ⟨r', hr', rfl⟩ := List.mem_map.1 hes'; obtain ⟨r, hr, rfl⟩ := List.mem_map.1 hr'; have hr1 := hF.r r hr; refine ⟨?_, fun e he => ?_⟩
  · rw [List.length_map]
    unfold edgesB; refine Nat.le_trans (List.length_filterMap_le _ _) ?_; show (r.f2.map toLk).length ≤ _; rw [List.length_map]; omega
  · obtain ⟨y, hy, rfl⟩ := List.mem_map.1 he
    unfold edgesB at hy; obtain ⟨l, hl, hle⟩ := List.mem_filterMap.1 hy; unfold edgeB at hle; obtain ⟨q, -, rfl⟩ := Option.map_eq_some_iff.1 hle
    have hm : ∀ m ∈ M.map toMp, m.clauses.length ≤ 1000 := fun m hm => by
      obtain ⟨x, hx, rfl⟩ := List.mem_map.1 hm; show (x.f1.map toCl).length ≤ _; rw [List.length_map]; exact hF.m x hx
    refine ⟨?_, ?_⟩
    · show (List.map frCl _).length ≤ _
      rw [List.length_map]; exact Nat.le_trans (clauses_len _ 1000 hm _ _) (by omega)
    · show (List.map frCl _).length ≤ _
      rw [List.length_map]; exact Nat.le_trans (clauses_len _ 1000 hm _ _) (by omega)
theorem ln_l (M : List MP) (R : List RT) (hF : Fit M R) (hG : LoP.Good M R) (hw : ∀ r ∈ R, r.f3.length ≤ 1000000) (Y : List P2) (hY : Y.length ≤ 1000000000000) : ∀ d i, i + d = Y.length → Evt (fun k => maquettelaw13_LowerNet.l0 k Y (Y.length : Int) (i : Int) M R) true
  | 0, i, h => Evt.step 0 fun k _ => by rw [maquettelaw13_LowerNet.l0, if_neg (by omega)]
  | d + 1, i, h => by
    obtain ⟨p, hp, -, -⟩ := at_ h; have hl := hF.l; obtain ⟨K1, h1⟩ := ln_l M R hF hG hw Y hY d (i + 1) (by omega); obtain ⟨K2, h2⟩ := lnet_at M R hF hG hw p.f0 p.f1; obtain ⟨K3, h3⟩ := same_at (netO R p.f0 p.f1) (netS R p.f0 p.f1) (netE M R p.f0 p.f1) (by unfold netO; rw [List.length_map, List.length_map]; omega) (by unfold netS; rw [List.length_map, List.length_map]; omega) (by unfold netE; rw [List.length_map, List.length_map, List.length_map]; omega) (netE_len M R hF p.f0 p.f1); (refine Evt.step (K1 + K2 + K3) fun k hK => ?_); have h2 : maquettelaw13_net.f k M R p.f0 p.f1 = _ := h2 k (by omega); have h3 : maquettelaw13_Same.f k _ _ _ _ _ _ = _ := h3 k (by omega); rw [maquettelaw13_LowerNet.l0, if_pos (by omega), if_pos (by omega), if_pos (by omega), rdP hp, net_at M R hF, Option.bind_some, h2, Option.bind_some]; show (maquettelaw13_Same.f k (netO R p.f0 p.f1) (netS R p.f0 p.f1) (netE M R p.f0 p.f1) (netO R p.f0 p.f1) (netS R p.f0 p.f1) (netE M R p.f0 p.f1)).bind _ = _; rw [h3, Option.bind_some, if_pos rfl, w1 (by omega)]; exact h1 k (by omega)
theorem awake_ok : maquettelaw13_awake.f = some true := by
  unfold maquettelaw13_awake.f; decide +kernel
theorem maps_len : ∀ (mp : List (List Cfg.SU)) i, (Cfg.mapsFrom i mp).length ≤ 4 - i
  | [], i => Nat.zero_le _
  | rs :: r, i => by
    have ih := maps_len r (i + 1); rw [Cfg.mapsFrom]; split
    · rw [List.length_cons]
      omega
    · omega
theorem config_good {a0 : Int} {ls : List Int} {mp : List (List Cfg.SU)} {ns nt ws : List Int} : LoP.Good (Cfg.cmaps mp) (Cfg.crouts a0 ls mp ns nt ws) ∧ ∀ r ∈ Cfg.crouts a0 ls mp ns nt ws, r.f3.length ≤ 1000000 := by
  have hn : (a0 % 8).toNat < 8 := by omega
  have hat : ∀ (i : Nat) (x : RT), (Cfg.crouts a0 ls mp ns nt ws)[i]? = some x → i < (a0 % 8).toNat ∧ x = Cfg.rout ls mp.length ns nt ws (a0 % 8).toNat i := by
    intro i x h; unfold Cfg.crouts at h; rw [List.getElem?_map] at h; obtain ⟨j, hj, rfl⟩ := Option.map_eq_some_iff.1 h; have hi := (List.getElem?_eq_some_iff.1 hj).1; rw [List.length_range] at hi; rw [List.getElem?_range hi] at hj; obtain rfl := Option.some.inj hj; exact ⟨hi, rfl⟩
  refine ⟨⟨?_, ?_, ?_⟩, ?_⟩
  · intro i j x y hx hy e
    obtain ⟨hi, rfl⟩ := hat i x hx; obtain ⟨hj, rfl⟩ := hat j y hy; have := nm_inj ⟨i, by omega⟩ ⟨j, by omega⟩ e; exact congrArg Fin.val this
  · exact Nat.le_trans (maps_len mp 0) (by omega)
  · intro r hr l hl
    unfold Cfg.crouts at hr; obtain ⟨k, hk, rfl⟩ := List.mem_map.1 hr; have hl : l ∈ Cfg.lnks ls ns mp.length (a0 % 8).toNat k := hl; unfold Cfg.lnks Cfg.lnksFrom at hl; obtain ⟨j, hj, rfl⟩ := List.mem_map.1 hl; obtain ⟨hj1, -⟩ := List.mem_filter.1 hj
    have hjn : j < (a0 % 8).toNat := by
      have := List.mem_range'.1 hj1; omega
    refine ⟨j, Cfg.rout ls mp.length ns nt ws (a0 % 8).toNat j, ?_, rfl⟩; unfold Cfg.crouts; rw [List.getElem?_map, List.getElem?_range hjn]; rfl
  · intro r hr
    unfold Cfg.crouts at hr; obtain ⟨k, -, rfl⟩ := List.mem_map.1 hr; show (Cfg.statsOf ws (Cfg.lnks ls ns mp.length (a0 % 8).toNat k) k).length ≤ 1000000; unfold Cfg.statsOf; split <;> simp
theorem lnet {a0 : Int} {ls : List Int} {mp : List (List Cfg.SU)} {ns nt ws : List Int} (h : Cfg.Shape a0 ls mp ns nt ws) (n : Nat) (hn : n ≤ 255) : ∃ k, maquettelaw13_LowerNet.f k a0 ls mp ns nt ws (n : Int) = some true := by
  obtain ⟨K, hK⟩ := Cfg.config_at h; have hF := config_fit h
  have hcl : (cls (Cfg.crouts a0 ls mp ns nt ws)).length ≤ 1000000000 := by
    unfold cls classesB netsB; rw [List.length_map, List.length_mergeSort]; have h1 := nets_len ((Cfg.crouts a0 ls mp ns nt ws).map toRt) []
    have hs : ∀ (X : List RT), (∀ r ∈ X, r.f1.length ≤ 1000) → tot (X.map toRt) ≤ X.length * 1000 := by
      intro X
      induction X with
      | nil => intro _; exact Nat.le_refl _
      | cons r X ih =>
        intro h; (have h1 := ih fun x hx => h x (.tail _ hx)); have h2 := h r (.head _); have h3 : (toRt r).nets.length = r.f1.length := List.length_map _; unfold tot at h1 ⊢; simp only [List.map_cons, List.sum_cons, List.length_cons]; omega
    (have h2 := hs _ fun r hr => (hF.r r hr).2.1); have h3 := hF.l; simp only [List.length_nil] at h1; omega
  obtain ⟨hG, hw⟩ := @config_good a0 ls mp ns nt ws; obtain ⟨K2, h2⟩ := ln_l _ _ hF hG hw (cls (Cfg.crouts a0 ls mp ns nt ws) ++ [⟨(Cfg.make n).f0, (Cfg.make n).f1⟩]) (by rw [List.length_append, List.length_singleton]; omega) _ 0 (Nat.zero_add _); refine ⟨K + K2 + 36, ?_⟩; unfold maquettelaw13_LowerNet.f; rw [awake_ok, Option.bind_some, if_pos rfl, hK _ (by omega), Option.bind_some, classes_at _ _ hF, Option.bind_some, (Cfg.make_at hn).1 _ (by omega), Option.bind_some, if_pos (by omega), Option.bind_some]; exact h2 _ (by omega)
theorem lnet' {a0 : Int} {ls : List Int} {mp : List (List Cfg.SU)} {ns nt ws : List Int} (h : Cfg.Shape a0 ls mp ns nt ws) (a1 : Int) (ha : 0 ≤ a1 ∧ a1 ≤ 255) : ∃ k, maquettelaw13_LowerNet.f k a0 ls mp ns nt ws a1 = some true := by
  obtain ⟨n, rfl⟩ := Int.eq_ofNat_of_zero_le ha.1; exact lnet h n (by omega)
end Go.Proofs.Ytnhdfjcecgjlgaa.LoQ
