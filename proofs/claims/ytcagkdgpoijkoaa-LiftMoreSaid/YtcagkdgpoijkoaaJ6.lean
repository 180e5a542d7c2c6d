/- Texts of this work, joined: Cls, PLmx10, LiC. -/
import Derived.Test.YtcagkdgpoijkoaaJ5
import Derived.Test.YtcagkdgpoijkoaaNet2
import Derived.Test.YtcagkdgpoijkoaaShort
import Derived.Test.YtcagkdgpoijkoaaSh2
import Derived.Test.YtcagkdgpoijkoaaPLmx0
import Derived.Test.YtcagkdgpoijkoaaCfg
section
namespace Go.Proofs.Ytcagkdgpoijkoaa.Low
open Go.RowKit Go.Proofs.Ytcagkdgpoijkoaa.Mq Go.Proofs.Ytcagkdgpoijkoaa.Pfx Go.Proofs.Ytcagkdgpoijkoaa.Cls Go.Proofs.Ytcagkdgpoijkoaa.Map
set_option linter.unusedVariables false
set_option linter.unusedSimpArgs false
def addB (acc : List Pf) (p : Pf) : List Pf := if 0 ≤ indexB acc p then acc else acc ++ [p]
def netsB (rs : List Rt) : List Pf := rs.foldl (fun acc r => r.nets.foldl addB acc) []
def classesB (rs : List Rt) : List Pf := (netsB rs).mergeSort SortP.leB
theorem add_len (p : Pf) (acc : List Pf) : (addB acc p).length ≤ acc.length + 1 := by
  unfold addB; split
  · omega
  · simp
theorem adds_len (ps : List Pf) : ∀ acc, (ps.foldl addB acc).length ≤ acc.length + ps.length := by
  induction ps with
  | nil => intro acc; simp
  | cons p ps ih =>
    intro acc; have := ih (addB acc p); have := add_len p acc; simp only [List.foldl_cons, List.length_cons]; omega
theorem take_foldl2 {α β : Type} (f : β → α → β) (b : β) (l : List α) (k : Nat) (x : α) (hx : l[k]? = some x) : (l.take (k + 1)).foldl f b = f ((l.take k).foldl f b) x := by
  obtain ⟨hj, rfl⟩ := List.getElem?_eq_some_iff.1 hx; rw [List.take_succ_eq_append_getElem hj, List.foldl_append]; rfl
def tot (rs : List Rt) : Nat := (rs.map fun r => r.nets.length).sum
theorem nets_len (rs : List Rt) : ∀ acc : List Pf, (rs.foldl (fun acc r => r.nets.foldl addB acc) acc).length ≤ acc.length + tot rs := by
  induction rs with
  | nil => intro acc; simp
  | cons r rs ih =>
    intro acc; have h1 := ih (r.nets.foldl addB acc); have h2 := adds_len r.nets acc; (have h3 : tot (r :: rs) = r.nets.length + tot rs := by simp [tot]); simp only [List.foldl_cons]; omega
theorem tot_take : ∀ (rs : List Rt) (k : Nat) (r : Rt), rs[k]? = some r → tot (rs.take k) + r.nets.length ≤ tot rs
  | [], k, r, h => by simp at h
  | x :: rs, 0, r, h => by
    (have e : x = r := by simpa using h); subst e; simp [tot]
  | x :: rs, k + 1, r, h => by
    have h1 := tot_take rs k r (by simpa using h); simp only [tot, List.take_succ_cons, List.map_cons, List.sum_cons] at h1 ⊢; omega
theorem info_pfz : (Try.prog.info? 35).map (·.zero) = some (some (.agg #[.int .u32 0, .int .i64 0])) := by kernel_rfl
theorem info_pfs : (Try.prog.info? 35).map (fun i => (i.zero, i.size, i.bytes)) = some (some (.agg #[.int .u32 0, .int .i64 0]), 2, 16) := by kernel_rfl
set_option maxHeartbeats 4000000 in
set_option maxRecDepth 100000 in
theorem classes_calls {w : World} {A1 : Option Addr} {rs : List Rt} {c1 : Nat} (v0 : Value) (hr : Row rtR w (· < w.heap.size) A1 rs) (hnl : tot rs ≤ 8000000000000) :
    Calls Try.prog 22 #[.agg #[v0, .slice A1 rs.length c1]] w fun e W => ∃ v, e = .returned v ∧ Mem w W [] [own pfR 35 v (classesB rs)] := by
  have H := (MemM.start w).box 70 [v0, .slice A1 rs.length c1]; have hrl := hr.len; unfold maxLen at hrl; go_enter Try.func22, Try.ntmps22; go_wp2_with fail; generalize w.heap.size = g at H ⊢; generalize w.alloc (.cells #[v0, .slice A1 rs.length c1] 70) = W0 at H ⊢; have q0 := (H.boxcell (.head _) 0 _ rfl).1; have q1 := (H.boxcell (.head _) 1 _ rfl).1; go_wp2; have H := H.nilItem pfR 35; go_loopw [3, 11] (fun v3 v11 W => ∃ k : Nat, k ≤ rs.length ∧ v11 = .int .i64 k ∧ Mem w W [] [own pfR 35 v3 ((rs.take k).foldl (fun acc r => r.nets.foldl addB acc) []), box g 70 [v0, .slice A1 rs.length c1]]) (fun _ v11 _ => rs.length - (intOf v11).toNat)
  case atStart => exact ⟨0, Nat.zero_le _, rfl, H⟩
  case round =>
    clear H q0 q1; obtain ⟨k, hk, rfl, H⟩ := hrel; by_cases hlt : k < rs.length
    · obtain ⟨r, hrk⟩ : ∃ r, rs[k]? = some r := ⟨_, List.getElem?_eq_getElem hlt⟩
      obtain ⟨ad, A2, n2, A3, n3, A4, n4, rfl, hx, hnets, -, -⟩ := hr.rt1 hrk; have hx := hide (oldcells H hx); have hn := tot_take rs k r hrk; have hacc := nets_len (rs.take k) []; have hnr := hnets.len; unfold maxLen at hnr; have hts := hide (take_foldl2 (fun acc (r : Rt) => r.nets.foldl addB acc) [] rs k r hrk); clear hrk; generalize (rs.take k).foldl (fun acc r => r.nets.foldl addB acc) [] = acc at H hacc hts
      go_upto_region 5 with (first
        | ((with_reducible refine gate_dst (N := 14) rfl ?_); refine wp_ldcells [.string (bs r.name), .slice A2 r.nets.length n2, .slice A3 r.links.length n3, .slice A4 r.ways.length n4, .int .i64 r.at_] hx.out rfl _ _ rfl rfl _ Try.underlying91 rfl (by kernel_rfl) ?_)
        | ((with_reducible refine gate_dst (N := 5) rfl ?_); refine wp_alloc H rfl _ rfl _ info_rt _ rfl ?_; clear H hx; intro gr W1 H)
        | (refine wp_stbox H rfl _ _ _ rfl 0 rfl _ rfl _ rfl (by kernel_rfl) rfl (Nat.le_of_ble_eq_true rfl) [.string (bs r.name), .slice A2 r.nets.length n2, .slice A3 r.links.length n3, .slice A4 r.ways.length n4, .int .i64 r.at_] rfl ?_; clear H; intro W2 H))
      have x0 := (H.boxcell (.head _) 0 _ rfl).1; have x1 := (H.boxcell (.head _) 1 _ rfl).1; have x2 := (H.boxcell (.head _) 2 _ rfl).1; have x3 := (H.boxcell (.head _) 3 _ rfl).1; have x4 := (H.boxcell (.head _) 4 _ rfl).1; go_wp2; replace H := H.pull1; go_loopw [3, 18] (fun v3 v18 W => ∃ j : Nat, j ≤ r.nets.length ∧ v18 = .int .i64 j ∧ Mem w W [] [own pfR 35 v3 ((r.nets.take j).foldl addB acc), box gr 91 [.string (bs r.name), .slice A2 r.nets.length n2, .slice A3 r.links.length n3, .slice A4 r.ways.length n4, .int .i64 r.at_], box g 70 [v0, .slice (some ad) rs.length c1]]) (fun _ v18 _ => r.nets.length - (intOf v18).toNat)
      case atStart => exact ⟨0, Nat.zero_le _, rfl, H⟩
      case round =>
        clear H x0 x1 x2 x3 x4; obtain ⟨j, hj, rfl, H⟩ := hrel; by_cases hjl : j < r.nets.length
        · obtain ⟨p, hpj⟩ : ∃ p, r.nets[j]? = some p := ⟨_, List.getElem?_eq_getElem hjl⟩
          obtain ⟨al, rfl, hxl⟩ := hnets.flat1 hpj; have hxl := hide (oldcells H hxl); have htj := hide (take_foldl2 addB acc r.nets j p hpj); have hal := adds_len (r.nets.take j) acc; rw [List.length_take] at hal; clear hpj; obtain ⟨pa, pb⟩ := p; generalize (r.nets.take j).foldl addB acc = ac at H htj hal
          go_upto_region 8 with (first
            | ((with_reducible refine gate_dst (N := 21) rfl ?_); refine wp_ldcells [.int .u32 pa, .int .i64 pb] hxl.out rfl _ _ rfl rfl _ Try.underlying35 rfl (by kernel_rfl) ?_)
            | ((with_reducible refine gate_dst (N := 7) rfl ?_); refine wp_alloc H rfl _ rfl _ info_pfz _ rfl ?_; clear H hxl; intro gp W1 H)
            | (refine wp_stbox H rfl _ _ _ rfl 0 rfl _ rfl _ rfl (by kernel_rfl) rfl (Nat.le_of_ble_eq_true rfl) [.int .u32 pa, .int .i64 pb] rfl ?_; clear H; intro W2 H))
          obtain ⟨A5, p5, rfl⟩ := H.one (.tail _ (.head _)); obtain ⟨-, -, hac⟩ := H.rdx (.tail _ (.head _)); have y0 := (H.boxcell (.head _) 0 _ rfl).1; have y1 := (H.boxcell (.head _) 1 _ rfl).1; have hcon := hide (contains_calls (n := p5) hac pa pb); generalize hq : decide (0 ≤ indexB ac ⟨pa, pb⟩) = q at hcon; cases q
          · have hadd : addB ac ⟨pa, pb⟩ = ac ++ [⟨pa, pb⟩] := by
              unfold addB; rw [if_neg (of_decide_eq_false hq)]
            rw [hadd] at htj; clear hq hac
            go_wp2_with (first
              | (go_at_call 36; refine hcon.out.mono ?_; rintro e W3 ⟨rfl, hm⟩; clear y0 y1 hcon; replace H := H.call hm; clear hm; have y0 := (H.boxcell (.head _) 0 _ rfl).1; have y1 := (H.boxcell (.head _) 1 _ rfl).1)
              | ((with_reducible refine gate_dst (N := 29) rfl ?_); refine wp_append H.pull1 rfl _ _ _ (.agg #[.int .u32 0, .int .i64 0]) 16 rfl Try.underlying72 info_pfs rfl (by decide) (by decide) ⟨pa, pb⟩ [.int .u32 pa, .int .i64 pb] rfl rfl (fun _ _ => rfl) (by simp only [List.length_nil] at hacc; omega) ?_; clear H; intro v1 W4 H))
            go_roundw
            case rel => exact ⟨j + 1, by omega, by go_num, by rw [htj.out]; exact H.pull1.drop⟩
            case measure => simp [intOf]; omega
          · have hadd : addB ac ⟨pa, pb⟩ = ac := by
              unfold addB; rw [if_pos (of_decide_eq_true hq)]
            rw [hadd] at htj; clear hq hac
            go_wp2_with (first
              | (go_at_call 36; refine hcon.out.mono ?_; rintro e W3 ⟨rfl, hm⟩; clear y0 y1 hcon; replace H := H.call hm; clear hm))
            go_roundw
            case rel => exact ⟨j + 1, by omega, by go_num, by rw [htj.out]; exact H.drop⟩
            case measure => simp [intOf]; omega
        · obtain rfl : j = r.nets.length := by omega
          rw [List.take_length] at H; go_wp2; go_roundw
          case rel => exact ⟨k + 1, by omega, by go_num, by rw [hts.out]; exact H.pull1.drop⟩
          case measure => simp [intOf]; omega
    · obtain rfl : k = rs.length := by omega
      have hacc := nets_len rs []; rw [List.take_length] at H; have hnb : netsB rs = rs.foldl (fun acc r => r.nets.foldl addB acc) [] := rfl; rw [← hnb] at H hacc; go_wp2_with (go_at_call 37; refine (SortP.sortp_mem H (by simp only [List.length_nil] at hacc; omega)).mono ?_; rintro e W1 ⟨rfl, H1⟩; clear H; have H := H1; clear H1); go_ret; exact ⟨_, rfl, H.pull1.drop⟩
end Go.Proofs.Ytcagkdgpoijkoaa.Low
end
section
namespace Go.Proofs.Ytcagkdgpoijkoaa.PLm
open Go.RowKit Go.Proofs.Ytcagkdgpoijkoaa.Short Go.Proofs.YtcagkdgpoijkoaaW.PrintWords Go.Proofs.YtcagkdgpoijkoaaW.PrintLast Go.Proofs.YtcagkdgpoijkoaaW.PrintMore
attribute [local go_sem] max2_int min2_int max_two min_two max_three min_three max_four min_four
set_option linter.unusedVariables false
set_option linter.unusedSimpArgs false
def lower_Classes.f (l0_0 : List S86) (l0_1 : List S91) : Option (List S35) :=
 if (l0_1.map fun r => r.f1.length).sum ≤ 8000000000000 then some ((Go.Proofs.Ytcagkdgpoijkoaa.Low.classesB (l0_1.map toRt)).map frPf) else none
theorem lower_Classes.calls (A0_0 : Option Addr) (c0_0 : Nat) (l0_0 : List (S86)) (A0_1 : Option Addr) (c0_1 : Nat) (l0_1 : List (S91)) (r : List (S35)) (w : World) (hr0_0 : Kd.C k86 w A0_0 l0_0.length l0_0) (hc0_0 : l0_0.length ≤ c0_0) (hr0_1 : Kd.C k91 w A0_1 l0_1.length l0_1) (hc0_1 : l0_1.length ≤ c0_1) (h : lower_Classes.f l0_0 l0_1 = some r) :
  Calls Try.prog 22 #[.agg #[.slice A0_0 l0_0.length c0_0, .slice A0_1 l0_1.length c0_1]] w fun e w' => ∃ v0_ : Value, e = .returned (v0_) ∧ Kd.R k35 35 w' w.heap.size (fun _ => True) v0_ r ∧ Below w.heap.size w w' := by
 unfold lower_Classes.f at h; split at h
 ·rename_i hok
  obtain rfl := Option.some.inj h
  have ht : Go.Proofs.Ytcagkdgpoijkoaa.Low.tot (l0_1.map toRt) ≤ 8000000000000 := by
   have e : Go.Proofs.Ytcagkdgpoijkoaa.Low.tot (l0_1.map toRt) = (l0_1.map fun r => r.f1.length).sum := by
    unfold Go.Proofs.Ytcagkdgpoijkoaa.Low.tot; rw [List.map_map]; congr 1; (refine List.map_congr_left fun x _ => ?_); show (x.f1.map toPf).length = x.f1.length; rw [List.length_map]
   rw [e]; exact hok
  have hc := Go.Proofs.Ytcagkdgpoijkoaa.Low.classes_calls (c1 := c0_1) (.slice A0_0 l0_0.length c0_0) (rows_rt hr0_1) ht; rw [List.length_map] at hc; refine hc.mono ?_; rintro e w' ⟨v, rfl, H⟩; have hR := Go.Proofs.Ytcagkdgpoijkoaa.Bridge.R_of_own (d := k35) frPf rfl (fun w S y cs hk W b ok => M_frPf y cs hk W b ok) H; exact ⟨v, rfl, hR, H.below⟩
 ·cases h
end Go.Proofs.Ytcagkdgpoijkoaa.PLm
end
section
namespace Go.Proofs.Ytcagkdgpoijkoaa.LiC
open Go.RowKit Go.Proofs.Ytcagkdgpoijkoaa.PLm Go.Proofs.YtcagkdgpoijkoaaW.PrintWords Go.Proofs.YtcagkdgpoijkoaaW.PrintLast Go.Proofs.YtcagkdgpoijkoaaW.PrintMore Go.Proofs.Ytcagkdgpoijkoaa.Low
open Go.Proofs.Ytcagkdgpoijkoaa.Mq (Pf Rt Cl Ed Mp Lk)
set_option linter.unusedVariables false
set_option linter.unusedSimpArgs false
set_option linter.all false
abbrev P2 := S35
abbrev RT := S91
abbrev MP := S86
abbrev ED := S51
abbrev CL := S116
theorem up {α : Type} {F : Nat → Option α} (h : ∀ k, LeO (F k) (F (k + 1))) {k k' : Nat} (hk : k ≤ k') {r : α} (e : F k = some r) : F k' = some r := by
  induction hk with
  | refl => exact e
  | step _ ih => exact h _ _ ih
theorem w1 {i : Nat} (h : i < 9223372036854775807) : wrap64 ((i : Int) + 1) = ((i + 1 : Nat) : Int) := by unfold wrap64; omega
def cls (R : List RT) : List P2 := (classesB (R.map toRt)).map frPf
theorem for_len (td : Pf) : ∀ cs : List Cl, (Go.Proofs.Ytcagkdgpoijkoaa.Cls.forB td cs).length ≤ cs.length
  | [] => Nat.le_refl _
  | c :: r => by
    have ih := for_len td r
    unfold Go.Proofs.Ytcagkdgpoijkoaa.Cls.forB
    rw [List.length_cons]
    split
    · omega
    · rw [List.length_cons]
      split
      · exact Nat.succ_le_succ (Nat.zero_le _)
      · omega
theorem clauses_len (ms : List Mp) (N : Nat) (h : ∀ m ∈ ms, m.clauses.length ≤ N) (name : Go.Proofs.Ytcagkdgpoijkoaa.Mq.Str) (td : Pf) : (Go.Proofs.Ytcagkdgpoijkoaa.Low.clausesB ms name td).length ≤ N := by
  unfold Go.Proofs.Ytcagkdgpoijkoaa.Low.clausesB
  cases e : ms.find? (fun m => m.name == name) with
  | none => exact Nat.zero_le _
  | some m => exact Nat.le_trans (for_len td _) (h m (List.mem_of_find?_eq_some e))
structure Fit (M : List MP) (R : List RT) : Prop where
  l : R.length ≤ 1000
  r : ∀ r ∈ R, r.f0.size ≤ 1000 ∧ r.f1.length ≤ 1000 ∧ r.f2.length ≤ 1000 ∧ (∀ l ∈ r.f2, l.f0.size ≤ 1000) ∧ ∀ y ∈ r.f3, y.f1.size ≤ 1000
  m : ∀ m ∈ M, m.f1.length ≤ 1000
def netO (R : List RT) (a b : Int) : List Bool := (R.map toRt).map (orgB ⟨a, b⟩)
def netS (R : List RT) (a b : Int) : List Int := (R.map toRt).map (wayB ⟨a, b⟩ (R.map toRt))
def netE (M : List MP) (R : List RT) (a b : Int) : List (List ED) := ((R.map toRt).map (edgesB ⟨a, b⟩ (M.map toMp) (R.map toRt))).map fun es => es.map frEd
theorem maxLen_1000 : 1000 ≤ maxLen := by unfold maxLen; decide
theorem net_at (M : List MP) (R : List RT) (hF : Fit M R) (a b : Int) : lower_Net.f M R a b = some (netO R a b, netS R a b, netE M R a b) := by
  have h0 := maxLen_1000
  have hok : lower_Net.ok M R = true := by
    unfold lower_Net.ok
    simp only [Bool.and_eq_true, decide_eq_true_eq, List.all_eq_true]
    refine ⟨⟨by have := hF.l; omega, fun r hr => ?_⟩, fun m hm => by have := hF.m m hm; omega⟩
    obtain ⟨h1, h2, h3, h4, h5⟩ := hF.r r hr
    exact ⟨⟨⟨by omega, by omega⟩, fun l hl => by have := h4 l hl; omega⟩, fun y hy => by have := h5 y hy; omega⟩
  unfold lower_Net.f
  rw [if_pos hok]
  rfl
theorem classes_at (M : List MP) (R : List RT) (hF : Fit M R) : lower_Classes.f M R = some (cls R) := by
  have hs : ∀ (X : List RT), (∀ r ∈ X, r.f1.length ≤ 1000) → (X.map fun r => r.f1.length).sum ≤ X.length * 1000 := by
    intro X
    induction X with
    | nil => intro _; exact Nat.le_refl _
    | cons r X ih =>
      intro h
      have h1 := ih fun x hx => h x (.tail _ hx)
      have h2 := h r (.head _)
      simp only [List.map_cons, List.sum_cons, List.length_cons]
      omega
  have h1 := hs R fun r hr => (hF.r r hr).2.1
  have h2 := hF.l
  unfold lower_Classes.f
  rw [if_pos (Nat.le_trans h1 (by omega))]
  rfl
theorem config_fit {a0 : Int} {ls : List Int} {mp : List (List Cfg.SU)} {ns nt ws : List Int} (h : Cfg.Shape a0 ls mp ns nt ws) : Fit (Cfg.cmaps mp) (Cfg.crouts a0 ls mp ns nt ws) := by
  have hn : (a0 % 8).toNat < 8 := by omega
  have hnm : ∀ k, (Cfg.nm k).size ≤ 1000 := fun k => by show (2 : Nat) ≤ 1000; omega
  have hL : ∀ k, (Cfg.lnks ls ns mp.length (a0 % 8).toNat k).length ≤ 1000 ∧ ∀ l ∈ Cfg.lnks ls ns mp.length (a0 % 8).toNat k, l.f0.size ≤ 1000 := by
    intro k
    unfold Cfg.lnks Cfg.lnksFrom
    refine ⟨?_, ?_⟩
    · rw [List.length_map]
      refine Nat.le_trans (List.length_filter_le _ _) ?_
      rw [List.length_range']
      omega
    · intro l hl
      obtain ⟨j, -, rfl⟩ := List.mem_map.1 hl
      exact hnm j
  refine ⟨?_, ?_, ?_⟩
  · unfold Cfg.crouts
    rw [List.length_map, List.length_range]
    omega
  · intro r hr
    unfold Cfg.crouts at hr
    obtain ⟨k, -, rfl⟩ := List.mem_map.1 hr
    refine ⟨hnm k, ?_, (hL k).1, (hL k).2, ?_⟩
    · show (Cfg.netsOf nt k).length ≤ 1000
      unfold Cfg.netsOf
      split <;> simp
    · intro y hy
      have hy : y ∈ Cfg.statsOf ws (Cfg.lnks ls ns mp.length (a0 % 8).toNat k) k := hy
      unfold Cfg.statsOf at hy
      split at hy
      · obtain rfl := List.mem_singleton.1 hy
        show ((Cfg.lnks ls ns mp.length (a0 % 8).toNat k).getD _ _).f0.size ≤ 1000
        rw [List.getD_eq_getElem?_getD]
        cases e : (Cfg.lnks ls ns mp.length (a0 % 8).toNat k)[Cfg.num ws k / 8 % (Cfg.lnks ls ns mp.length (a0 % 8).toNat k).length]? with
        | none => show (0 : Nat) ≤ 1000; omega
        | some l => exact (hL k).2 l (List.mem_of_getElem? e)
      · cases hy
  · have hm : ∀ (X : List (List Cfg.SU)) i, ∀ m ∈ Cfg.mapsFrom i X, m.f1.length ≤ 1000 := by
      intro X
      induction X with
      | nil => intro i m hm; cases hm
      | cons x X ih =>
        intro i m hm
        unfold Cfg.mapsFrom at hm
        split at hm
        · rcases List.mem_cons.1 hm with rfl | hm
          · show (Cfg.clausesOf x).length ≤ 1000
            unfold Cfg.clausesOf
            rw [List.length_map, List.length_take]
            omega
          · exact ih _ m hm
        · exact ih _ m hm
    exact hm mp 0
end Go.Proofs.Ytcagkdgpoijkoaa.LiC
end
