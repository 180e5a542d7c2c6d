/- Texts of this work, joined: LiM, Open, OpenK. -/
import Derived.Test.YtcagkdgpoijkoaaJ14
import Derived.Test.YtcagkdgpoijkoaaPLmx34
import Derived.ProofKit
import Derived.SizedLaws
import Derived.Deep.Slices
import Derived.Test.YtcagkdgpoijkoaaMq
import Derived.Test.YtcagkdgpoijkoaaRows
import Derived.Test.YtcagkdgpoijkoaaWWords
import Derived.Deep.CondSized
section
namespace Go.Proofs.Ytcagkdgpoijkoaa.LiM
open Go.RowKit Go.Proofs.Ytcagkdgpoijkoaa.PLm Go.Proofs.YtcagkdgpoijkoaaW.PrintWords Go.Proofs.YtcagkdgpoijkoaaW.PrintLast Go.Proofs.YtcagkdgpoijkoaaW.PrintMore Go.Proofs.Ytcagkdgpoijkoaa.LiC Go.Proofs.Ytcagkdgpoijkoaa.LiN Go.Proofs.Ytcagkdgpoijkoaa.LiL
open Go.Proofs.Ytcagkdgpoijkoaa.FwP Go.Proofs.Ytcagkdgpoijkoaa.FwQ
set_option linter.unusedVariables false
set_option linter.unusedSimpArgs false
set_option linter.all false
theorem chain_up1 {U : Nat → List Bool} {F : List Bool → List Bool} {N : Nat} (hF : ∀ n, U (n + 1) = F (U n)) (hl : ∀ n, (U n).length = N) (hle : ∀ n, leB (U n) (U (n + 1))) (h0 : 1 ≤ (U 0).count true) : ∀ m, N - 1 ≤ m → U m = U (N - 1) := by
  have still : ∀ n, U (n + 1) = U n → ∀ d, U (n + d) = U n := by
    intro n hn d
    induction d with
    | zero => rfl
    | succ d ih => rw [← Nat.add_assoc, hF, ih, ← hF, hn]
  have hN : 1 ≤ N := by
    have h2 : (U 0).count true ≤ (U 0).length := List.count_le_length; rw [hl] at h2; omega
  have hex : ∃ n, n ≤ N - 1 ∧ U (n + 1) = U n := by
    apply Classical.byContradiction; intro hno; have hne : ∀ n, n ≤ N - 1 → U (n + 1) ≠ U n := fun n hn e => hno ⟨n, hn, e⟩
    have hc : ∀ n, n ≤ N → n + 1 ≤ (U n).count true := by
      intro n
      induction n with
      | zero => intro _; omega
      | succ n ih =>
        intro hn; have h1 := ih (by omega); obtain ⟨h2, h3⟩ := count_le (by rw [hl, hl]) (hle n); rcases Nat.lt_or_ge ((U n).count true) ((U (n + 1)).count true) with h4 | h4
        · omega
        · exact absurd (h3 (by omega)).symm (hne n (by omega))
    have h1 := hc N (Nat.le_refl _); have h2 : (U N).count true ≤ (U N).length := List.count_le_length; rw [hl] at h2; omega
  obtain ⟨n, hn, e⟩ := hex; intro m hm; have h1 := still n e (m - n); have h2 := still n e (N - 1 - n); rw [show n + (m - n) = m by omega] at h1; rw [show n + (N - 1 - n) = N - 1 by omega] at h2; rw [h1, h2]
section
variable {g : List (List Int)} {p : List Bool} (hp : p.length = g.length)
include hp
theorem reach_few (k : Nat) (h : (reachIt g g.length p)[k]? = some true) : ∃ i, i < g.length ∧ (itB g i p)[k]? = some true := by
  have hk : k < g.length := by
    rcases Nat.lt_or_ge k g.length with h1 | h1
    · exact h1
    · rw [List.getElem?_eq_none (by rw [reachIt_len g p hp]; exact h1)] at h; cases h
  by_cases h0 : 1 ≤ p.count true
  · have hc := chain_up1 (U := fun n => reachIt g n p) (F := fun a => orB a (stepB g a)) (N := g.length) (fun n => rfl) (fun n => reachIt_len g p hp n) (fun n => reachIt_up hp n) h0 g.length (by omega)
    have hc' : reachIt g g.length p = reachIt g (g.length - 1) p := hc; rw [hc'] at h; obtain ⟨i, hi, h⟩ := reach_it hp _ k h; exact ⟨i, by omega, h⟩
  · have hnone : ∀ i k : Nat, (itB g i p)[k]? ≠ some true := by
      intro i
      induction i with
      | zero =>
        intro k hk; have : true ∈ p := List.mem_of_getElem? hk; have := List.count_pos_iff.2 this; omega
      | succ i ih =>
        intro k hk; rw [itB, stepB_get] at hk; obtain ⟨r, hr, x, hx, h0, h1⟩ := hk; exact ih _ h1
    obtain ⟨i, hi, h⟩ := reach_it hp _ k h; exact absurd h (hnone i k)
end
theorem node (g : List (List Int)) (o : List Bool) (hl : o.length = g.length) (N k : Nat) (hk : k < g.length) (hN : g.length ≤ N) (hog : o[k]? = some true → g[k]? = some []) (R P : Bool) (hR : (reachB g o)[k]? = some R) (hP : (loopsB g)[k]? = some P) :
    (R = true ↔ 0 < (hopRow g (pad g.length o) k N).length) ∧ (R = true → ∃ x, (hopRow g (pad g.length o) k N)[0]? = some x ∧ x < (g.length : Int)) ∧ (o[k]? = some true → hopRow g (pad g.length o) k N = [0] ∧ P = false) := by
  have hp := pad_len g.length o
  have hfew : R = true → ∃ i, i < g.length ∧ (itB g i (pad g.length o))[k]? = some true := by
    intro h; rw [h] at hR; exact reach_few hp k hR
  refine ⟨⟨fun h => ?_, fun h => ?_⟩, fun h => ?_, fun h => ?_⟩
  · obtain ⟨i, hi, h1⟩ := hfew h
    exact List.length_pos_of_mem ((hopRow_mem g _ k N (i : Int)).2 ⟨i, rfl, by omega, h1⟩)
  · obtain ⟨x, hx⟩ := List.exists_mem_of_length_pos h
    have := hops_reach g o k _ x hx; rw [hR] at this; exact Option.some.inj this
  · obtain ⟨i, hi, h1⟩ := hfew h
    have hpre := hopRow_pre g (pad g.length o) k (n := i + 1) (m := N) (by omega); have hmem := (hopRow_mem g (pad g.length o) k (i + 1) (i : Int)).2 ⟨i, rfl, by omega, h1⟩; have hpos := List.length_pos_of_mem hmem; obtain ⟨t, ht⟩ := hpre; refine ⟨(hopRow g (pad g.length o) k (i + 1))[0], ?_, ?_⟩
    · rw [← ht, List.getElem?_append_left hpos, List.getElem?_eq_getElem hpos]
    · obtain ⟨j, e, hj, -⟩ := (hopRow_mem g (pad g.length o) k (i + 1) _).1 (List.getElem_mem hpos)
      rw [e]; omega
  · have hg := hog h
    have h0 : (pad g.length o)[k]? = some true := by
      rw [pad_get _ _ _ hk, List.getD_eq_getElem?_getD, h]; simp; omega
    have hS : ∀ i q, (itB g (i + 1) q)[k]? = some false := by
      intro i q; rw [itB_next g q k i [] hg]; rfl
    refine ⟨?_, ?_⟩
    · have hs : ∀ m, hopRow g (pad g.length o) k (m + 1) = [0] := by
        intro m
        induction m with
        | zero => rw [hopRow_succ g (pad g.length o) k 0 true h0]; simp [hopRow]
        | succ m ih => rw [hopRow_succ g (pad g.length o) k (m + 1) false (hS m _), ih]; rfl
      obtain ⟨m, rfl⟩ : ∃ m, N = m + 1 := ⟨N - 1, by omega⟩; exact hs m
    · obtain ⟨m, hm⟩ : ∃ m, g.length = m + 1 := ⟨g.length - 1, by omega⟩
      unfold loopsB at hP; rw [hm] at hP; rw [hS m _] at hP; exact (Option.some.inj hP).symm
theorem of_origin (o : List Bool) (s : List Int) (E : List (List ED)) (L : List AT) (k : Nat) (G : List (List Int)) (h : forward_Of.f k o s E L = some G) (i : Nat) (hi : o[i]? = some true) : G[i]? = some [] := by
  unfold forward_Of.f at h; split at h
  · obtain rfl := Option.some.inj h
    have hlt := (List.getElem?_eq_some_iff.1 hi).1
    have hw : Go.Proofs.Ytcagkdgpoijkoaa.OfP.way o s (L.map toAt) i = .none := by
      unfold Go.Proofs.Ytcagkdgpoijkoaa.OfP.way; rw [List.getD_eq_getElem?_getD, hi]; rfl
    unfold Go.Proofs.Ytcagkdgpoijkoaa.OfP.ofB Go.Proofs.Ytcagkdgpoijkoaa.OfP.ofN; rw [List.getElem?_map, List.getElem?_range hlt]; simp only [Option.map_some, if_pos hlt]; unfold Go.Proofs.Ytcagkdgpoijkoaa.OfP.ofRow; rw [hw]
  · cases h
section
variable (o : List Bool) (s : List Int) (E : List (List ED)) (hN : NetOk o s E) (h8 : o.length ≤ 8)
include hN h8
theorem l2_at (L : List AT) (hL : L.length = o.length) (G : List (List Int)) (hl : G.length = o.length) (hog : ∀ i : Nat, o[i]? = some true → G[i]? = some []) (m : Int) (hm : (o.length : Int) ≤ m) : ∀ d i, i + d = o.length → ∃ k, maquettelaw23_LiftMore.l2 k L ((List.range o.length).map (ans (hopsB G o m) (reachB G o) (loopsB G))) (o.length : Int) (i : Int) o s E = some true
  | 0, i, h => ⟨1, by rw [maquettelaw23_LiftMore.l2, if_neg (by omega)]⟩
  | d + 1, i, h => by
    obtain ⟨k, hk⟩ := l2_at L hL G hl hog m hm d (i + 1) (by omega); refine ⟨k + 1, ?_⟩; have hal : ((List.range o.length).map (ans (hopsB G o m) (reachB G o) (loopsB G))).length = o.length := by simp
    have e : rd_T61 ((List.range o.length).map (ans (hopsB G o m) (reachB G o) (loopsB G))) (i : Int) = ans (hopsB G o m) (reachB G o) (loopsB G) i := by
      unfold rd_T61; rw [List.getD_eq_getElem?_getD, Int.toNat_natCast, List.getElem?_map, List.getElem?_range (by omega)]; rfl
    have hLl : (loopsB G).length = G.length := by
      unfold loopsB; exact itB_len G _ (by simp) _
    obtain ⟨R, hR⟩ : ∃ R, (reachB G o)[i]? = some R := ⟨_, List.getElem?_eq_getElem (by rw [reachB_len]; omega)⟩; obtain ⟨P, hP⟩ : ∃ P, (loopsB G)[i]? = some P := ⟨_, List.getElem?_eq_getElem (by omega)⟩; have hH := hopsB_get G o m i (by omega); obtain ⟨n1, n2, n3⟩ := node G o hl.symm (min m 256 + 1).toNat i (by omega) (by omega) (hog i) R P hR hP; generalize hHH : hopRow G (pad G.length o) i (min m 256 + 1).toNat = H at hH n1 n2 n3; (have f0 : (ans (hopsB G o m) (reachB G o) (loopsB G) i).f0 = R := by unfold ans; simp only [List.getD_eq_getElem?_getD, hR]; rfl); (have f1 : (ans (hopsB G o m) (reachB G o) (loopsB G) i).f1 = P := by unfold ans; simp only [List.getD_eq_getElem?_getD, hP]; rfl); (have f2 : (ans (hopsB G o m) (reachB G o) (loopsB G) i).f2 = H := by unfold ans; simp only [List.getD_eq_getElem?_getD, hH]; rfl); obtain ⟨b, hb⟩ : ∃ b, o[i]? = some b := ⟨_, List.getElem?_eq_getElem (by omega)⟩
    have hob : rdOf false o (i : Int) = b := by
      unfold rdOf; rw [List.getD_eq_getElem?_getD, Int.toNat_natCast, hb]; rfl
    rw [maquettelaw23_LiftMore.l2, if_pos (by omega), if_pos (by omega), if_pos (by omega), e, f0, f1, f2, hob, w1 (by omega)]
    have hgo : (if b = true then (if (H.length : Int) = 1 then (if (rd H 0) = 0 then (if P = true then (some false) else some true) else (some false)) else (some false)) else some true) = some true := by
      cases b with
      | false => rfl
      | true =>
        obtain ⟨e1, e2⟩ := n3 hb; rw [e1, e2]; rfl
    cases R with
    | true =>
      have hpos := n1.1 rfl; obtain ⟨x, hx, hlt⟩ := n2 rfl
      have hrd : rd H 0 = x := by
        unfold rd; rw [List.getD_eq_getElem?_getD]; show (H[0]?).getD 0 = x; rw [hx]; rfl
      have c1 : decide ((H.length : Int) > 0) = true := decide_eq_true (by omega); rw [c1, if_neg (by simp), if_pos rfl, if_pos (by omega), if_neg (by rw [hrd]; omega), if_pos (by omega), hk]; exact hgo
    | false =>
      have hz : H.length = 0 := by
        rcases Nat.eq_zero_or_pos H.length with h | h
        · exact h
        · exact absurd (n1.2 h) (by simp)
      have c1 : decide ((H.length : Int) > 0) = false := decide_eq_false (by omega)
      have hbf : b = false := by
        cases b with
        | false => rfl
        | true =>
          have := (n3 hb).1; rw [this] at hz; cases hz
      rw [c1, if_neg (by simp), if_neg (by simp), if_pos (by omega), if_neg (by rw [hbf]; simp)]; exact hk
variable (x3 x4 : Int) (h3 : 0 ≤ x3 ∧ x3 ≤ 255) (h4 : 0 ≤ x4 ∧ x4 ≤ 255)
include h3 h4
theorem l1_at (r : Nat) (hr : r < 1000) (hnext : ∀ L : List AT, L.length = o.length → ∃ k, maquettelaw23_LiftMore.l0 k x3 x4 L ((r + 1 : Nat) : Int) o s E = some true) : ∀ d j (L : List AT), j + d = o.length → L.length = o.length → ∃ k, maquettelaw23_LiftMore.l1 k x3 x4 L (r : Int) (o.length : Int) (j : Int) o s E = some true
  | 0, j, L, h, hL => by
    obtain ⟨k, hk⟩ := hnext L hL; refine ⟨k + 1, ?_⟩; rw [maquettelaw23_LiftMore.l1, if_neg (by omega), w1 (by omega)]; exact hk
  | d + 1, j, L, h, hL => by
    have hol := hN.l; obtain ⟨K, c, hc⟩ := choice_ok o s E hN L j; obtain ⟨k, hk⟩ := l1_at r hr hnext d (j + 1) (L.set (j : Int).toNat ⟨c.1, c.2.1, c.2.2.1, c.2.2.2⟩) (by omega) (by rw [List.length_set]; exact hL); refine ⟨K + k + 1, ?_⟩; rw [maquettelaw23_LiftMore.l1, if_pos (by omega), up (F := fun k => stable_Choice.f k o s E L (j : Int)) (fun k => stable_Choice.mono _ _ _ _ _ k) (Nat.le_add_right K k) hc, Option.bind_some, if_pos (by omega), if_pos (by omega), w1 (by omega)]; exact up (F := fun k => maquettelaw23_LiftMore.l1 k x3 x4 (L.set (j : Int).toNat ⟨c.1, c.2.1, c.2.2.1, c.2.2.2⟩) (r : Int) (o.length : Int) ((j + 1 : Nat) : Int) o s E) (fun k => (maquettelaw23_LiftMore.mono_l k).2.1 _ _ _ _ _ _ _ _ _) (Nat.le_add_left k K) hk
theorem l0_at : ∀ d r (L : List AT), r + d = (x3 % 6).toNat → L.length = o.length → ∃ k, maquettelaw23_LiftMore.l0 k x3 x4 L (r : Int) o s E = some true
  | 0, r, L, h, hL => by
    have hol := hN.l; (have e1 : wrap64 (Int.tmod x3 6) = x3 % 6 := by rw [Int.tmod_eq_emod_of_nonneg h3.1]; unfold wrap64; omega); (have e2 : wrap64 ((L.length : Int) + (wrap64 (Int.tmod x4 9))) = (o.length : Int) + x4 % 9 := by rw [Int.tmod_eq_emod_of_nonneg h4.1, hL]; unfold wrap64; omega); obtain ⟨K, G, hG, hl, hA⟩ := answers_at o s E hN L ((o.length : Int) + x4 % 9); obtain ⟨k, hk⟩ := l2_at o s E hN h8 L hL G hl (fun i hi => of_origin o s E L K G (hG K (Nat.le_refl _)) i hi) ((o.length : Int) + x4 % 9) (by omega) o.length 0 (by omega); refine ⟨K + k + 1, ?_⟩; rw [maquettelaw23_LiftMore.l0, e1, if_neg (by omega), e2, hA _ (by omega), Option.bind_some, List.length_map, List.length_range, hL, if_pos rfl]; exact up (F := fun k => maquettelaw23_LiftMore.l2 k L ((List.range o.length).map (ans (hopsB G o ((o.length : Int) + x4 % 9)) (reachB G o) (loopsB G))) (o.length : Int) ((0 : Nat) : Int) o s E) (fun k => (maquettelaw23_LiftMore.mono_l k).2.2 _ _ _ _ _ _ _) (Nat.le_add_left k K) hk
  | d + 1, r, L, h, hL => by
    (have e1 : wrap64 (Int.tmod x3 6) = x3 % 6 := by rw [Int.tmod_eq_emod_of_nonneg h3.1]; unfold wrap64; omega); obtain ⟨k, hk⟩ := l1_at o s E hN h8 x3 x4 h3 h4 r (by omega) (fun L' hL' => l0_at d (r + 1) L' (by omega) hL') o.length 0 L (by omega) hL; refine ⟨k + 1, ?_⟩; rw [maquettelaw23_LiftMore.l0, e1, if_pos (by omega), hL]; exact hk
end
theorem lmore {a0 : Int} {ls : List Int} {mp : List (List Cfg.SU)} {ns nt ws : List Int} (h : Cfg.Shape a0 ls mp ns nt ws) (a1 : Int) (ha1 : 0 ≤ a1 ∧ a1 ≤ 255) (a3 a4 : Int) (h3 : 0 ≤ a3 ∧ a3 ≤ 255) (h4 : 0 ≤ a4 ∧ a4 ≤ 255) : ∃ k, maquettelaw23_LiftMore.f k a0 ls mp ns nt ws a1 a3 a4 = some true := by
  obtain ⟨K, o, s, E, p0, p1, b, hK, hb⟩ := lnet_at h a1 ha1; have haw : ∀ k, 60 ≤ k → maquettelaw23_awake.f k = some true := fun k hk => up (F := maquettelaw23_awake.f) maquettelaw23_awake.mono hk maquettelaw23_awake.at60
  cases b with
  | false =>
    refine ⟨K + 60, ?_⟩; unfold maquettelaw23_LiftMore.f; rw [haw _ (by omega), Option.bind_some, if_pos rfl, hK _ (by omega), Option.bind_some, if_neg (by simp)]
  | true =>
    obtain ⟨p0, p1, rfl, rfl, rfl⟩ := hb rfl; have hN := net_ok _ _ (config_fit h) p0 p1
    have h8 : (netO (Cfg.crouts a0 ls mp ns nt ws) p0 p1).length ≤ 8 := by
      unfold netO Cfg.crouts; rw [List.length_map, List.length_map, List.length_map, List.length_range]; omega
    obtain ⟨k, hk⟩ := l0_at _ _ _ hN h8 a3 a4 h3 h4 (a3 % 6).toNat 0 (List.replicate (netO (Cfg.crouts a0 ls mp ns nt ws) p0 p1).length z41) (by omega) (by simp); refine ⟨K + 60 + k, ?_⟩; unfold maquettelaw23_LiftMore.f; rw [haw _ (by omega), Option.bind_some, if_pos rfl, hK _ (by omega), Option.bind_some, if_pos rfl]; dsimp only; rw [if_pos (by omega), if_pos (by omega), Int.toNat_natCast]; exact up (F := fun k => maquettelaw23_LiftMore.l0 k a3 a4 _ 0 _ _ _) (fun k => (maquettelaw23_LiftMore.mono_l k).1 _ _ _ _ _ _ _) (by omega : k ≤ K + 60 + k) hk
end Go.Proofs.Ytcagkdgpoijkoaa.LiM
end
section
namespace Go.Proofs.Ytcagkdgpoijkoaa.Open
open Go.ChangeShapes Go.WideShapes Go.ChangeAt Go.RowKit Go.Proofs.Ytcagkdgpoijkoaa.Mq
set_option linter.unusedVariables false
theorem wf_lohi {k : IntKind} {x lo hi : Int} (h : (Lit.int k x).wf = true) (h1 : k.min = lo := by rfl) (h2 : k.max = hi := by rfl) : lo ≤ x ∧ x ≤ hi := by
  unfold Lit.wf at h
  rw [Bool.and_eq_true, decide_eq_true_eq, decide_eq_true_eq, h1, h2] at h
  exact h
theorem wf_u8' {x : Int} (h : (Lit.int .u8 x).wf = true) : 0 ≤ x ∧ x ≤ 255 := wf_lohi h
theorem trodAll_stays {H : Type} {enc : TypeId × Value → H} {P : Program} (hl : laidOutB P = true) {W W' : World} (hb : Below W.heap.size W W') :
    ∀ {ts : List TypeId} {vs : List Value} {ds : List (DataW H)} {ps : List MemPlace}, (∀ t ∈ ts, P.readableRec t = true ∧ t < P.types.size) → DataW.TrodAll enc P W 0 (fun _ => true) true ts vs ds ps →
      ∃ ps', DataW.TrodAll enc P W' 0 (fun b => decide (b < W.heap.size)) true ts vs ds ps'
  | [], vs, ds, ps, _, h => by
    cases vs <;> cases ds <;> simp [DataW.TrodAll] at h
    exact ⟨[], rfl⟩
  | t :: ts, vs, ds, ps, ht, h => by
    obtain ⟨v, vs', d, ds', p, q, rfl, rfl, rfl, h1, h2⟩ := trodAll_cons h
    obtain ⟨q', h3⟩ := trodAll_stays hl hb (fun t h => ht t (List.mem_cons_of_mem _ h)) h2
    have k := h1
    have lt : ∀ x ∈ p, x.block < W.heap.size := by obtain ⟨m, hm⟩ := k; exact DataW.trod_lt m _ _ _ hm
    exact ⟨p ++ q', p, q', Below.trod hl (ht t List.mem_cons_self).1 (ht t List.mem_cons_self).2 h1 hb lt, h3, rfl⟩
theorem lifted_of_walk {H : Type} {enc : TypeId × Value → H} {C : Checked} {os : Os} {f : FuncId} {fn : Func} {s : ChangeSpec} {tb : TypeId} (own : ownKnob C.prog.godebug = none) (started : os.Started) (noInit : C.prog.inits.idxOf? f = none)
    (hfn : C.prog.funcs[f]? = some fn) (hl : laidOutB C.prog = true) (hvars : s.vars = []) (hs : ∀ ds : List (DataW H), ds.length = fn.params.size → s.fn H ds = { results := [.lit (.bool true)], args := ds })
    (hres : fn.resultTypes = #[tb]) (htb : C.prog.underlying tb = some .bool) (hpar : ∀ t ∈ fn.params.toList, C.prog.readableRec t = true ∧ t < C.prog.types.size)
    (witness : ∃ (w : World) (tape : Tape) (i : Input), w.os = os ∧ (w.forCall tape i).Shaped C.prog ∧ i.vars = [] ∧ Input.okWide C.prog (w.forCall tape i) .any w.heap.size f i ∧
      s.pre6 enc C.prog fn [] false (w.forCall tape i).memory i.args ∧ Assume.holds {} C.prog (lone (Frame.enter C.prog f i.args .normal) [] (w.forCall tape i)))
    (walk : ∀ (W : World) (base : Nat) (args : Array Value) (ds : List (DataW H)) (p : List MemPlace), (∀ (j : Nat) t v, fn.params[j]? = some t → args[j]? = some v → Value.okWide C.prog W .any base t v) →
      DataW.TrodAll enc C.prog W 0 (fun _ => true) true fn.params.toList args.toList ds p → (DataW.weightsEach C.prog (fn.params.toList ++ []) (ds ++ [])).all (· ≤ reachBytes) = true →
      Calls C.prog f args W fun e W' => e = .returned (.bool true) ∧ Below W.heap.size W W') :
    ReturnsInHanded {} C os f .any (s.pre6 enc C.prog fn [] false) (s.post enc C.prog fn false true false false) := by
  refine returnsInHanded_of_change_sized (C := C) own started noInit hfn witness ?_
  intro W base args ds gs before hval hW hcnd hsz _
  have hW' := hW
  obtain ⟨p, q, hA, hV, rfl, hfz, hnd⟩ := hW
  have hvt : s.plain.varTypes C.prog = [] := by simp [DataSpec.varTypes, ChangeSpec.plain, hvars]
  have hgs : gs = [] ∧ q = [] := by
    rw [hvars] at hV
    exact trodVars_none hV
  obtain ⟨rfl, rfl⟩ := hgs
  rw [hvt] at hsz
  refine (walk W base args ds p hval hA hsz).mono fun e W' ⟨he, bel⟩ => ?_
  subst he
  obtain ⟨pa, hpa⟩ := trodAll_stays hl bel hpar hA
  have hlen : ds.length = fn.params.size := by
    have : ∀ {ts : List TypeId} {vs : List Value} {ds : List (DataW H)} {ps : List MemPlace}, DataW.TrodAll enc C.prog W 0 (fun _ => true) true ts vs ds ps → ds.length = ts.length := by
      intro ts
      induction ts with
      | nil => intro vs ds ps h; cases vs <;> cases ds <;> simp [DataW.TrodAll] at h; rfl
      | cons t ts ih => intro vs ds ps h; obtain ⟨v, vs', d, ds', p, q, rfl, rfl, rfl, h1, h2⟩ := trodAll_cons h; simp [ih h2]
    rw [this hA]; simp
  have hspec := hs ds hlen
  refine ⟨_, rfl, ds, [], p ++ [], [], pa, [], hW', ?_, ?_, ?_, bel.frame _, fun h => by cases h⟩
  · rw [List.append_nil, hspec, hres]
    exact trodAll_mk1 (shut_bool htb _)
  · rw [List.append_nil, hspec]
    exact hpa
  · rw [List.append_nil, hspec, hvars]
    rfl
section
variable {H : Type} (enc : TypeId × Value → H) (P : Program) (w : World) (base : Nat) (spare : Nat → Bool) (held : Bool)
def Opens {α : Type} (t : TypeId) (d : Rep α) (ok : α → DataW H → Prop) : Prop :=
  ∀ n cs x, DataW.trod enc P w base spare held n t cs = some x → ∃ y, d.K w (· < w.heap.size) y cs ∧ ok y x.1
end
section
variable {H : Type} {enc : TypeId × Value → H} {P : Program} {w : World} {base : Nat} {spare : Nat → Bool} {held : Bool}
def OkRow {α : Type} (ok : α → DataW H → Prop) (ys : List α) (D : DataW H) : Prop :=
  (D = .nil ∧ ys = []) ∨ ∃ es rest, D = .slice es rest ∧ es.length = ys.length ∧ ∀ (i : Nat) y e, ys[i]? = some y → es[i]? = some e → ok y e
theorem OkRow.all {α : Type} {ok : α → DataW H → Prop} {ys : List α} {D : DataW H} (h : OkRow ok ys D) : ∀ y ∈ ys, ∃ e, ok y e := by
  intro y hy
  rcases h with ⟨_, rfl⟩ | ⟨es, rest, _, hl, h⟩
  · cases hy
  · obtain ⟨i, hi, rfl⟩ := List.mem_iff_getElem.1 hy
    exact ⟨es[i], h i _ _ (List.getElem?_eq_getElem hi) (List.getElem?_eq_getElem (by omega))⟩
theorem choose_list {β : Type} {p : Nat → β → Prop} : ∀ n, (∀ i, i < n → ∃ y, p i y) → ∃ l : List β, l.length = n ∧ ∀ i y, l[i]? = some y → p i y
  | 0, _ => ⟨[], rfl, by simp⟩
  | n + 1, h => by
    obtain ⟨l, hl, hp⟩ := choose_list n (fun i hi => h i (by omega))
    obtain ⟨y, hy⟩ := h n (by omega)
    refine ⟨l ++ [y], by simp [hl], fun i z hz => ?_⟩
    rcases Nat.lt_or_ge i l.length with h1 | h1
    · rw [List.getElem?_append_left h1] at hz; exact hp i z hz
    · rw [List.getElem?_append_right h1] at hz
      obtain rfl : i = n := by
        rcases Nat.lt_or_ge (i - l.length) 1 with h2 | h2
        · omega
        · rw [List.getElem?_eq_none (by simpa using h2)] at hz; cases hz
      rw [hl, Nat.sub_self] at hz
      simp at hz
      subst hz
      exact hy
end
end Go.Proofs.Ytcagkdgpoijkoaa.Open
end
section
namespace Go.Proofs.Ytcagkdgpoijkoaa.OpenK
open Go.ChangeShapes Go.WideShapes Go.ChangeAt Go.RowKit Go.Proofs.Ytcagkdgpoijkoaa.Open
open Go.Proofs.YtcagkdgpoijkoaaW.PrintWords (Kd)
set_option linter.unusedVariables false
section
variable {H : Type} (enc : TypeId × Value → H) (P : Program) (w : World) (base : Nat) (spare : Nat → Bool) (held : Bool)
def Opens {α : Type} (t : TypeId) (d : Kd α) (ok : α → DataW H → Prop) : Prop :=
  ∀ n cs x, DataW.trod enc P w base spare held n t cs = some x → ∃ y, d.K w y cs ∧ ok y x.1
end
section
variable {H : Type} {enc : TypeId × Value → H} {P : Program} {w : World} {base : Nat} {spare : Nat → Bool} {held : Bool}
theorem opens_int {t : TypeId} {k : IntKind} (ht : P.underlying t = some (.int k)) : Opens enc P w base spare held t (Kd.int k) (fun y D => (Lit.int k y).wf = true ∧ D = .lit (.int k y)) := by
  intro n cs x h
  obtain ⟨y, rfl, rfl, hw⟩ := DataW.trod_int ht h
  exact ⟨y, rfl, hw, rfl⟩
theorem opens_slice {α : Type} {t e : TypeId} {d : Kd α} {ok : α → DataW H → Prop} (ht : P.underlying t = some (.slice e)) (hc : P.cellsOf e = d.sz) (inner : Opens enc P w base spare held e d ok) :
    Opens enc P w base spare held t (Kd.slice e d) (OkRow ok) := by
  intro n cs x h
  rcases Go.Deep.open_slice ht h with ⟨rfl, rfl⟩ | ⟨a, len, cap, m, n', D, Pl, rfl, hb, hl, hm, hmm, rfl, hx⟩
  · exact ⟨[], ⟨none, 0, rfl, Nat.le_refl _, rfl, Nat.zero_le _, fun h => absurd h (Nat.lt_irrefl 0)⟩, .inl ⟨rfl, rfl⟩⟩
  · have hlm : len ≤ m := by rw [hmm]; split <;> omega
    obtain ⟨ys, hyl, hy⟩ := choose_list (p := fun i y => ∃ cs', (∀ (j : Nat) u, cs'[j]? = some u → w.cell? (a.add (i * d.sz + j)) = some u) ∧ cs'.length = d.sz ∧ d.K w y cs' ∧ ok y (D i)) len (fun i hi => by
      obtain ⟨cs', h1, h2⟩ := hx i (by omega)
      obtain ⟨y, hK, ho⟩ := inner _ _ _ h2
      obtain ⟨_, h3, h4⟩ := World.cells?_some h1
      refine ⟨y, cs', fun j u hu => ?_, by rw [h3, hc], hK, ho⟩
      have hj : j < cs'.length := by
        rcases Nat.lt_or_ge j cs'.length with h5 | h5
        · exact h5
        · rw [List.getElem?_eq_none h5] at hu; cases hu
      have := h4 j (by omega)
      rw [Mq.add_add, hc] at this
      rw [this, hu])
    subst hyl
    have hcap : ys.length ≤ 9223372036854775807 := by
      have e : maxLen = 9223372036854775807 := rfl
      omega
    refine ⟨ys, ⟨some a, cap, rfl, hl, rfl, hcap, fun _ => ⟨a, rfl, fun j p hj => ?_⟩⟩, .inr ⟨_, _, rfl, by simp, fun i y e hyi he => ?_⟩⟩
    · obtain ⟨cs', h1, h2, h3, _⟩ := hy j p hj
      exact ⟨cs', h2, h3, h1⟩
    · obtain ⟨cs', _, _, _, h4⟩ := hy i y hyi
      have hi : i < ys.length := by
        rcases Nat.lt_or_ge i ys.length with h5 | h5
        · exact h5
        · rw [List.getElem?_eq_none h5] at hyi; cases hyi
      rw [List.getElem?_map, List.getElem?_range hi] at he
      simp at he
      subst he
      exact h4
theorem pair_at {α β : Type} {d1 : Kd α} {d2 : Kd β} {x : α} {y : β} {cs : List Value} {o s o' : Nat} (e : o' = o + s) (h1 : d1.K w x ((cs.drop o).take s)) (h2 : d2.K w y (cs.drop o')) : (Kd.pair d1 d2).K w (x, y) (cs.drop o) := by
  subst e
  refine ⟨_, _, ?_, h1, h2⟩
  rw [show cs.drop (o + s) = (cs.drop o).drop s from by rw [List.drop_drop]]
  exact (List.take_append_drop s _).symm
theorem last_at {α : Type} {d : Kd α} {x : α} {cs : List Value} {o s n : Nat} (hl : cs.length = n) (e : n = o + s) (h : d.K w x ((cs.drop o).take s)) : d.K w x (cs.drop o) := by
  rw [List.take_of_length_le (by rw [List.length_drop]; omega)] at h
  exact h
theorem open_arg1 {α : Type} {t : TypeId} {d : Kd α} {ok : α → DataW H → Prop} {v : Value} {D : DataW H} {p : List MemPlace} (inner : Opens enc P w base spare held t d ok) (h : DataW.Trod enc P w base spare held t v D p) : ∃ y, d.K w y v.cells.toList ∧ ok y D := by
  obtain ⟨n, hn⟩ := h
  obtain ⟨y, h1, h2⟩ := inner _ _ _ hn
  exact ⟨y, h1, h2⟩
end
section
variable {H : Type} {enc : TypeId × Value → H} {P : Program} {w : World} {base b0 : Nat} {spare : Nat → Bool} {held : Bool}
theorem open_agg {α : Type} {t : TypeId} {fs : Array Field} {d : Kd α} {ok : α → DataW H → Prop} {v : Value} {D : DataW H} {p : List MemPlace} (ht : P.underlying t = some (.struct fs)) (hv : Value.okWide P w .any b0 t v)
    (inner : Opens enc P w base spare held t d ok) (h : DataW.Trod enc P w base spare held t v D p) : ∃ y cs, v = .agg cs ∧ d.K w y cs.toList ∧ ok y D := by
  obtain ⟨cs, rfl, _⟩ := okWide_struct ht hv
  obtain ⟨y, h1, h2⟩ := open_arg1 inner h
  exact ⟨y, cs, rfl, h1, h2⟩
end
theorem agg_eq {cs : Array Value} {l : List Value} (h : cs.toList = l) : cs = l.toArray := by rw [← h]
theorem OkRow.nth {H α : Type} {ok : α → DataW H → Prop} {ys : List α} {D : DataW H} (h : OkRow ok ys D) {P : α → Prop} (hp : ∀ y e, ok y e → P y) : ∀ y ∈ ys, P y := by
  intro y hy
  obtain ⟨e, he⟩ := h.all y hy
  exact hp y e he
end Go.Proofs.Ytcagkdgpoijkoaa.OpenK
end
