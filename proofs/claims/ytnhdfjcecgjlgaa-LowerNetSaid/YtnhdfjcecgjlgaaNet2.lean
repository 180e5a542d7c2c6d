/- Walks: lower.Net. -/
import Derived.Test.YtnhdfjcecgjlgaaJ3
import Derived.Deep.CutRange
namespace Go.Proofs.Ytnhdfjcecgjlgaa.Low
open Go.RowKit Go.Proofs.Ytnhdfjcecgjlgaa.Mq Go.Proofs.Ytnhdfjcecgjlgaa.Pfx Go.Proofs.Ytnhdfjcecgjlgaa.Cls Go.Proofs.Ytnhdfjcecgjlgaa.Map
set_option linter.unusedVariables false
set_option linter.unusedSimpArgs false
attribute [local go_sem] bs_list
attribute [local go_sem ↓] Eq.eql_pf
def ks (s : Str) : Value := .string (bs s)
def oks (s : Str) : Prop := s.length ≤ maxLen
theorem skeys : KeyOf Try.prog 9 ks oks where
  law := Go.Maps.string_keyed Try.underlying9
  tells := by
    intro s hs; refine ⟨.string (bs s).data.toList, ?_⟩; unfold keyOf; rw [Try.underlying9]; simp [mapKey, Try.underlying9, ks, bs_size, show s.length ≤ maxLen from hs]
  inj := by
    intro x y h; simp only [ks, Value.string.injEq] at h; exact bs_inj.1 h
def atN (rs : List Rt) : Nat → Str → Option Int
  | 0 => fun _ => none
  | k + 1 => match rs[k]? with
    | some r => upd (atN rs k) r.name k
    | none => atN rs k
theorem run_ldcells {P : Program} {a : Act} {o : Oper} {W : World} {ad : Addr} {n : Nat} (cs : List Value) (hc : ∀ (j : Nat) u, cs[j]? = some u → W.cell? (ad.add (n + j)) = some u) (t : TypeId) (p : Operand) (ho : o.op = .load t p) (hp : a.eval p = .pointer (some (ad.add n)))
    (d : TypeDesc) (hu : P.underlying t = some d) (hd : d.isRow = true) (hi : (P.info? t).map (·.size) = some cs.length) : (execOp a.eval o).run P W = .ok (.value (.agg cs.toArray)) W := by
  have hl : (loadCells (ad.add n) cs.length).run P W = .ok cs.toArray W :=
    run_loadCells_list (P := P) W (ad.add n) cs (fun j v hv => by rw [add_add]; exact hc j v hv)
  cases hq : P.info? t with
  | none => simp [hq] at hi
  | some i =>
    have hs : i.size = cs.length := by simpa [hq] using hi
    have hagg : (isAgg t).run P W = .ok true W := by
      unfold isAgg; rw [Sem.run_bind, run_underlying hu W]; cases d <;> simp_all
    unfold execOp; simp only [ho, hp, Instr.loadAt, Instr.sureAddr, Sem.run_bind, Sem.run_pure, Result.andThen_ok, loadVar, hagg, sizeOf, typeInfo, hq, hs, hl, if_true]; simp [Sem.run_bind, typeInfo, hq, hs, hl, Result.andThen]
def orgB (td : Pf) (r : Rt) : Bool := decide (0 ≤ indexB r.nets td)
def wayB (td : Pf) (rs : List Rt) (r : Rt) : Int := if 0 ≤ (staticB td r.ways).2 then (atN rs rs.length (staticB td r.ways).1).getD (-1) else -1
def edgeB (td : Pf) (ms : List Mp) (rs : List Rt) (r : Rt) (l : Lk) : Option Ed :=
  (atN rs rs.length l.peer).map fun k => ⟨k, l.cost, clausesB ms (((rs[k.toNat]?).bind fun q => peerB q.links r.name).getD lk0).exp td, clausesB ms l.imp td⟩
def edgesB (td : Pf) (ms : List Mp) (rs : List Rt) (r : Rt) : List Ed := r.links.filterMap (edgeB td ms rs r)
theorem static_oks (td : Pf) (ws : List Wy) (h : ∀ y ∈ ws, oks y.via) : oks (staticB td ws).1 := by
  unfold staticB
  have : ∀ (l : List Wy) (s : Str × Int), oks s.1 → (∀ y ∈ l, oks y.via) → oks (l.foldl (staticS td) s).1 := by
    intro l
    induction l with
    | nil => exact fun s h _ => h
    | cons y l ih =>
      intro s hs hl; refine ih _ ?_ (fun z hz => hl z (List.mem_cons_of_mem _ hz)); unfold staticS; split
      · exact hl y List.mem_cons_self
      · exact hs
  exact this ws _ (by simp [oks, maxLen]) h
theorem info_int : (Try.prog.info? 3).map (fun i => (i.zero, i.size, i.bytes)) = some (some (.int .i64 0), 1, 8) := by kernel_rfl
theorem take_filterMap {α β : Type} (f : α → Option β) (l : List α) (k : Nat) (x : α) (hx : l[k]? = some x) : (l.take (k + 1)).filterMap f = (l.take k).filterMap f ++ (f x).toList := by
  obtain ⟨hj, rfl⟩ := List.getElem?_eq_some_iff.1 hx; rw [List.take_succ_eq_append_getElem hj, List.filterMap_append]; cases h : f l[k] <;> simp [h]
theorem take_map {α β : Type} (f : α → β) (l : List α) (k : Nat) (x : α) (hx : l[k]? = some x) : (l.take (k + 1)).map f = (l.take k).map f ++ [f x] := by
  obtain ⟨hj, rfl⟩ := List.getElem?_eq_some_iff.1 hx; rw [List.take_succ_eq_append_getElem hj, List.map_append]; rfl
theorem info_ed : (Try.prog.info? 55).map (fun i => (i.zero, i.size, i.bytes)) = some (some (.agg #[.int .i64 0, .int .i64 0, .slice none 0 0, .slice none 0 0]), 4, 64) := by kernel_rfl
theorem info_es : (Try.prog.info? 52).map (fun i => (i.zero, i.size, i.bytes)) = some (some (.slice none 0 0), 1, 24) := by kernel_rfl
theorem atN_lt (rs : List Rt) : ∀ (n : Nat) (s : Str) (q : Int), atN rs n s = some q → ∃ k : Nat, k < rs.length ∧ q = k
  | 0, s, q, h => by cases h
  | n + 1, s, q, h => by
    cases hr : rs[n]? with
    | none =>
      (have h2 : atN rs (n + 1) = atN rs n := by rw [atN, hr]); rw [h2] at h; exact atN_lt rs n s q h
    | some r =>
      (have h2 : atN rs (n + 1) = upd (atN rs n) r.name (n : Int) := by rw [atN, hr]); rw [h2] at h; by_cases he : s = r.name
      · subst he
        rw [upd_self] at h; injection h with h; exact ⟨n, (List.getElem?_eq_some_iff.1 hr).1, h.symm⟩
      · rw [upd_ne _ _ he] at h
        exact atN_lt rs n s q h
theorem info_bool : (Try.prog.info? 4).map (fun i => (i.zero, i.size, i.bytes)) = some (some (.bool false), 1, 1) := by kernel_rfl
theorem info_nt : (Try.prog.info? 42).map (·.zero) = some (some (.agg #[.slice none 0 0, .slice none 0 0, .slice none 0 0])) := by kernel_rfl
theorem info_rt : (Try.prog.info? 51).map (·.zero) = some (some (.agg #[.string ByteArray.empty, .slice none 0 0, .slice none 0 0, .slice none 0 0, .int .i64 0])) := by kernel_rfl
set_option maxHeartbeats 4000000 in
set_option maxRecDepth 100000 in
theorem net_calls {w : World} {A0 A1 : Option Addr} {ms : List Mp} {rs : List Rt} {c0 c1 : Nat} (hmr : Row mpR w (· < w.heap.size) A0 ms) (hr : Row rtR w (· < w.heap.size) A1 rs) (a b : Int) (hnm : ∀ r ∈ rs, oks r.name) (hrl : rs.length ≤ 1000000000) (hvia : ∀ r ∈ rs, ∀ y ∈ r.ways, oks y.via) (hpeer : ∀ r ∈ rs, ∀ l ∈ r.links, oks l.peer) (hcl : ∀ m ∈ ms, m.clauses.length ≤ 2000000000000) (hlk : ∀ r ∈ rs, r.links.length ≤ 1000000000) :
    Calls Try.prog 8 #[.agg #[.slice A0 ms.length c0, .slice A1 rs.length c1], .agg #[.int .u32 a, .int .i64 b]] w fun e W => ∃ v0 v1 v2 : Value, e = .returned (.agg #[v0, v1, v2]) ∧ Mem w W [] [own bool 4 v0 (rs.map (orgB ⟨a, b⟩)), own (int .i64) 3 v1 (rs.map (wayB ⟨a, b⟩ rs)), own (slice edR) 52 v2 (rs.map (edgesB ⟨a, b⟩ ms rs))] := by
  have H := (((MemM.start w).box 30 [.slice A0 ms.length c0, .slice A1 rs.length c1]).box 36 [.int .u32 a, .int .i64 b]).box 42 [.slice none 0 0, .slice none 0 0, .slice none 0 0]; have hl := hr.len; unfold maxLen at hl; go_enter Try.func8, Try.ntmps8; (have e1 : (w.alloc (.cells #[.slice A0 ms.length c0, .slice A1 rs.length c1] 30)).heap.size = w.heap.size + 1 := by simp); (have e2 : ((w.alloc (.cells #[.slice A0 ms.length c0, .slice A1 rs.length c1] 30)).alloc (.cells #[.int .u32 a, .int .i64 b] 36)).heap.size = w.heap.size + 1 + 1 := by simp); rw [e1, e2] at H; go_wp2_with (first | ((with_reducible refine gate_dst (N := 23) rfl ?_); refine wp_makeMap H ks (Value.int .i64) oks rfl rfl ?_; clear H; intro gm W1 H; have q0 := (H.boxcell (.tail _ (.tail _ (.tail _ (.head _)))) 0 _ rfl).1; have q1 := (H.boxcell (.tail _ (.tail _ (.tail _ (.head _)))) 1 _ rfl).1)); generalize w.heap.size = g at H ⊢; go_loopw [27] (fun v27 W => ∃ k cnt : Nat, k ≤ rs.length ∧ v27 = .int .i64 k ∧ Mem w W [] [mapOf ks (Value.int .i64) oks gm cnt (atN rs k), box (g + 1 + 1) 42 [.slice none 0 0, .slice none 0 0, .slice none 0 0], box (g + 1) 36 [.int .u32 a, .int .i64 b], box g 30 [.slice A0 ms.length c0, .slice A1 rs.length c1]]) (fun v27 _ => rs.length - (intOf v27).toNat)
  case atStart => exact ⟨0, 0, Nat.zero_le _, rfl, H⟩
  case round =>
    clear H q0 q1; obtain ⟨k, cnt, hk, rfl, H⟩ := hrel; by_cases hlt : k < rs.length
    · obtain ⟨r, hrk⟩ : ∃ r, rs[k]? = some r := ⟨_, List.getElem?_eq_getElem hlt⟩
      have hok := hnm r (List.mem_of_getElem? hrk); (have hat : Hid (atN rs (k + 1) = upd (atN rs k) r.name (k : Int)) := by rw [Hid, atN, hrk]); obtain ⟨ad, A2, n2, A3, n3, A4, n4, rfl, hx, -, -, -⟩ := hr.rt1 hrk; have hx := hide (oldcells H hx); clear hrk
      go_wp2_with (first
        | ((with_reducible refine gate_dst (N := 31) rfl ?_); refine wp_ldcells [.string (bs r.name), .slice A2 r.nets.length n2, .slice A3 r.links.length n3, .slice A4 r.ways.length n4, .int .i64 r.at_] hx.out rfl _ _ rfl rfl _ Try.underlying51 rfl (by kernel_rfl) ?_)
        | ((with_reducible refine gate_dst (N := 7) rfl ?_); refine wp_alloc H rfl _ rfl _ info_rt _ rfl ?_; clear H hx; intro gc W1 H)
        | (refine wp_stbox H rfl _ _ _ rfl 0 rfl _ rfl _ rfl (by kernel_rfl) rfl (Nat.le_of_ble_eq_true rfl) [.string (bs r.name), .slice A2 r.nets.length n2, .slice A3 r.links.length n3, .slice A4 r.ways.length n4, .int .i64 r.at_] rfl ?_; clear H; intro W2 H; have x0 := (H.boxcell (.head _) 0 _ rfl).1; have x1 := (H.boxcell (.head _) 1 _ rfl).1; have x2 := (H.boxcell (.head _) 2 _ rfl).1; have x3 := (H.boxcell (.head _) 3 _ rfl).1; have x4 := (H.boxcell (.head _) 4 _ rfl).1)
        | (refine wp_mapUpdate skeys H.pull1 rfl _ _ _ rfl Try.underlying69 rfl r.name rfl hok (k : Int) rfl ?_; clear H; intro W3 H))
      go_roundw
      case rel => exact ⟨k + 1, _, by omega, by go_num, by rw [hat.out]; exact H.pull1.drop⟩
      case measure => simp [intOf]; omega
    · obtain rfl : k = rs.length := by omega
      have q0 := (H.boxcell (.tail _ (.tail _ (.tail _ (.head _)))) 0 _ rfl).1; have q1 := (H.boxcell (.tail _ (.tail _ (.tail _ (.head _)))) 1 _ rfl).1; go_wp2_with (first | ((with_reducible refine gate_dst (N := 8) rfl ?_); refine wp_alloc H rfl _ rfl _ info_nt _ rfl ?_; clear H q0 q1; intro go W2 H; have q0 := (H.boxcell (.tail _ (.tail _ (.tail _ (.tail _ (.head _))))) 0 _ rfl).1; have q1 := (H.boxcell (.tail _ (.tail _ (.tail _ (.tail _ (.head _))))) 1 _ rfl).1)); have H := ((((H.nilItem (slice edR) 52).nilItem (int .i64) 3).nilItem bool 4).perm (List.Perm.refl _)); go_loopw [40] (fun v40 W => ∃ (k : Nat) (vo vs ve : Value), k ≤ rs.length ∧ v40 = .int .i64 k ∧ Mem w W [] [own bool 4 vo ((rs.take k).map (orgB ⟨a, b⟩)), own (int .i64) 3 vs ((rs.take k).map (wayB ⟨a, b⟩ rs)), own (slice edR) 52 ve ((rs.take k).map (edgesB ⟨a, b⟩ ms rs)), box go 42 [vo, vs, ve], mapOf ks (Value.int .i64) oks gm cnt (atN rs rs.length), box (g + 1 + 1) 42 [.slice none 0 0, .slice none 0 0, .slice none 0 0], box (g + 1) 36 [.int .u32 a, .int .i64 b], box g 30 [.slice A0 ms.length c0, .slice A1 rs.length c1]]) (fun v40 _ => rs.length - (intOf v40).toNat)
      case atStart => exact ⟨0, _, _, _, Nat.zero_le _, rfl, H⟩
      case round =>
        clear H q0 q1; obtain ⟨k, vo, vs, ve, hk, rfl, H⟩ := hrel; by_cases hlt : k < rs.length
        · obtain ⟨r, hrk⟩ : ∃ r, rs[k]? = some r := ⟨_, List.getElem?_eq_getElem hlt⟩
          obtain ⟨ad, A2, n2, A3, n3, A4, n4, rfl, hx, hnets, hlinks, hways⟩ := hr.rt1 hrk; have hx := hide (oldcells H hx); have hrv := hvia r (List.mem_of_getElem? hrk); have hrp := hpeer r (List.mem_of_getElem? hrk); have hrl2 := hlk r (List.mem_of_getElem? hrk); have hto := hide (take_map (orgB ⟨a, b⟩) rs k r hrk); have htw := hide (take_map (wayB ⟨a, b⟩ rs) rs k r hrk); have hte := hide (take_map (edgesB ⟨a, b⟩ ms rs) rs k r hrk); clear hrk
          go_wp2_with (first
            | ((with_reducible refine gate_dst (N := 43) rfl ?_); refine wp_ldcells [.string (bs r.name), .slice A2 r.nets.length n2, .slice A3 r.links.length n3, .slice A4 r.ways.length n4, .int .i64 r.at_] hx.out rfl _ _ rfl rfl _ Try.underlying51 rfl (by kernel_rfl) ?_)
            | ((with_reducible refine gate_dst (N := 10) rfl ?_); refine wp_alloc H rfl _ rfl _ info_rt _ rfl ?_; clear H hx; intro gr W1 H)
            | (refine wp_stbox H rfl _ _ _ rfl 0 rfl _ rfl _ rfl (by kernel_rfl) rfl (Nat.le_of_ble_eq_true rfl) [.string (bs r.name), .slice A2 r.nets.length n2, .slice A3 r.links.length n3, .slice A4 r.ways.length n4, .int .i64 r.at_] rfl ?_; clear H; intro W2 H))
          refine wp_region_mix 8 (fun W' => W'.cell? ⟨go, 0, none⟩ = some vo ∧ W'.cell? ⟨gr, 1, none⟩ = some (.slice A2 r.nets.length n2) ∧ W'.cell? ⟨g + 1, 0, none⟩ = some (.int .u32 a) ∧ W'.cell? ⟨g + 1, 1, none⟩ = some (.int .i64 b)) (by kernel_rfl) ?_; replace H := H.drew
          have hSof : Hid (∀ W' l, MemM (fun _ => False) (fun _ => False) w W' [] l → box gr 51 [.string (bs r.name), .slice A2 r.nets.length n2, .slice A3 r.links.length n3, .slice A4 r.ways.length n4, .int .i64 r.at_] ∈ l → box go 42 [vo, vs, ve] ∈ l → box (g + 1) 36 [.int .u32 a, .int .i64 b] ∈ l → (W'.cell? ⟨go, 0, none⟩ = some vo ∧ W'.cell? ⟨gr, 1, none⟩ = some (.slice A2 r.nets.length n2) ∧ W'.cell? ⟨g + 1, 0, none⟩ = some (.int .u32 a) ∧ W'.cell? ⟨g + 1, 1, none⟩ = some (.int .i64 b))) := fun W' l h h1 h2 h3 =>
            ⟨(h.boxcell h2 0 _ rfl).1, (h.boxcell h1 1 _ rfl).1, (h.boxcell h3 0 _ rfl).1, (h.boxcell h3 1 _ rfl).1⟩
          have hS := hSof.out _ _ H (.head _) (.tail _ (.tail _ (.tail _ (.tail _ (.head _))))) (.tail _ (.tail _ (.tail _ (.tail _ (.tail _ (.tail _ (.tail _ (.head _)))))))); refine wpAnyM_take (i := 0) (v := ?_) rfl (by kernel_rfl) (by kernel_rfl) (by kernel_rfl) (by kernel_rfl) (fun _ _ _ h => h) hS (Or.inl ⟨by rfl, ?_⟩) ?_; rotate_left
          · intro w1 hS1
            (try dsimp only at hS1); go_simp; try with_reducible rfl
          simp only [Act.put, List.getElem_toArray, List.getElem_cons_succ, List.getElem_cons_zero, List.setIfInBounds_toArray, List.set_cons_zero, List.set_cons_succ]; refine wpAnyM_take (i := 1) (v := ?_) rfl (by kernel_rfl) (by kernel_rfl) (by kernel_rfl) (by kernel_rfl) (fun _ _ _ h => h) hS (Or.inl ⟨by rfl, ?_⟩) ?_; rotate_left
          · intro w1 hS1
            (try dsimp only at hS1); go_simp; try with_reducible rfl
          simp only [Act.put, List.getElem_toArray, List.getElem_cons_succ, List.getElem_cons_zero, List.setIfInBounds_toArray, List.set_cons_zero, List.set_cons_succ]; refine wpAnyM_take (i := 2) (v := ?_) rfl (by kernel_rfl) (by kernel_rfl) (by kernel_rfl) (by kernel_rfl) (fun _ _ _ h => h) hS (Or.inl ⟨by rfl, ?_⟩) ?_; rotate_left
          · intro w1 hS1
            (try dsimp only at hS1); go_simp; try with_reducible rfl
          simp only [Act.put, List.getElem_toArray, List.getElem_cons_succ, List.getElem_cons_zero, List.setIfInBounds_toArray, List.set_cons_zero, List.set_cons_succ]; refine wpAnyM_take (i := 3) (v := ?_) rfl (by kernel_rfl) (by kernel_rfl) (by kernel_rfl) (by kernel_rfl) (fun _ _ _ h => h) hS (Or.inl ⟨by rfl, ?_⟩) ?_; rotate_left
          · intro w1 hS1
            (try dsimp only at hS1); go_simp; try with_reducible rfl
          simp only [Act.put, List.getElem_toArray, List.getElem_cons_succ, List.getElem_cons_zero, List.setIfInBounds_toArray, List.set_cons_zero, List.set_cons_succ]; refine wpAnyM_take (i := 4) (v := ?_) rfl (by kernel_rfl) (by kernel_rfl) (by kernel_rfl) (by kernel_rfl) (fun _ _ _ h => h) hS (Or.inl ⟨by rfl, ?_⟩) ?_; rotate_left
          · intro w1 hS1
            (try dsimp only at hS1); go_simp; try with_reducible rfl
          simp only [Act.put, List.getElem_toArray, List.getElem_cons_succ, List.getElem_cons_zero, List.setIfInBounds_toArray, List.set_cons_zero, List.set_cons_succ]; refine wpAnyM_one (i := 5) rfl (by kernel_rfl) ?_; intro K' hK; go_wp2_with (go_at_call 15; refine (contains_calls (H.arg hnets) a b).mono ?_; rintro e W3 ⟨rfl, hm⟩; replace H := H.call hm); refine hK.out _ _ (fun hlt => hSof.out _ _ H (.head _) (.tail _ (.tail _ (.tail _ (.tail _ (.head _))))) (.tail _ (.tail _ (.tail _ (.tail _ (.tail _ (.tail _ (.tail _ (.head _))))))))) ?_; clear hK K'; refine wpAnyM_one (i := 6) rfl (by kernel_rfl) ?_; intro K' hK; go_wp2_with (fail); refine hK.out _ _ (fun hlt => hSof.out _ _ (H.alloc _) (.head _) (.tail _ (.tail _ (.tail _ (.tail _ (.head _))))) (.tail _ (.tail _ (.tail _ (.tail _ (.tail _ (.tail _ (.tail _ (.head _))))))))) ?_; clear hK K'; refine wpAnyM_one (i := 7) rfl (by kernel_rfl) ?_; intro K' hK; go_wp2_with (first | ((with_reducible refine gate_dst (N := 51) rfl ?_); refine wp_append H.pull1 rfl _ _ _ (.bool false) 1 rfl Try.underlying38 info_bool rfl (by decide) (by decide) (orgB ⟨a, b⟩ r) [.bool (orgB ⟨a, b⟩ r)] rfl rfl (fun _ _ => rfl) (by simp; omega) ?_; clear H; intro v1 W4 H; have hv1 := hide (H.one (.head _)))); refine hK.out _ _ (fun hlt => hSof.out _ _ H (.tail _ (.head _)) (.tail _ (.tail _ (.tail _ (.tail _ (.head _))))) (.tail _ (.tail _ (.tail _ (.tail _ (.tail _ (.tail _ (.tail _ (.head _))))))))) ?_; clear hK K'; refine wpAnyM_one (i := 8) rfl (by kernel_rfl) ?_; intro K' hK; go_wp2_with (fail); refine hK.out _ _ (fun hlt => absurd hlt (by omega)) ?_; clear hK K'; refine wpAnyM_one (i := 9) rfl (by kernel_rfl) ?_; intro K' hK; go_wp2_with (first | (refine wp_stbox (H.pull (l1 := [_, _, _, _])) rfl _ _ _ rfl 0 rfl v1 rfl [v1] (by obtain ⟨_, _, e⟩ := hv1.out; rw [e]; rfl) (by kernel_rfl) (by obtain ⟨_, _, e⟩ := hv1.out; rw [e]; rfl) (Nat.le_of_ble_eq_true rfl) [v1, vs, ve] rfl ?_; clear H hS; intro W5 H)); refine hK.out _ _ (fun hlt => absurd hlt (by omega)) ?_; clear hK K'; refine wpAnyM_done (by kernel_rfl) ?_ _; replace H := (H.push (l1 := [_, _, _, _])).pull1
          have hst : Hid (∀ W, Row wyR W (· < W.heap.size) A4 r.ways → Calls Try.prog 19 #[.agg #[.string (bs r.name), .slice A2 r.nets.length n2, .slice A3 r.links.length n3, .slice A4 r.ways.length n4, .int .i64 r.at_], .agg #[.int .u32 a, .int .i64 b]] W
              fun e W' => e = .returned (.tuple #[.string (bs (staticB ⟨a, b⟩ r.ways).1), .bool (decide (0 ≤ (staticB ⟨a, b⟩ r.ways).2))]) ∧ Mem W W' [] []) := fun W h => static_calls h _ _ _ _ a b
          have hway : Hid (wayB ⟨a, b⟩ rs r = if 0 ≤ (staticB ⟨a, b⟩ r.ways).2 then (atN rs rs.length (staticB ⟨a, b⟩ r.ways).1).getD (-1) else -1) := rfl; have hvk := static_oks ⟨a, b⟩ r.ways hrv; generalize staticB ⟨a, b⟩ r.ways = s at hst hway hvk; obtain ⟨sv, sb⟩ := s; simp only at hst hway hvk; have hway := hide (show wayB ⟨a, b⟩ rs r = if 0 ≤ sb then (atN rs rs.length sv).getD (-1) else -1 from hway.out); have x0 := (H.boxcell (.head _) 0 _ rfl).1; have x1 := (H.boxcell (.head _) 1 _ rfl).1; have x2 := (H.boxcell (.head _) 2 _ rfl).1; have x3 := (H.boxcell (.head _) 3 _ rfl).1; have x4 := (H.boxcell (.head _) 4 _ rfl).1; have z0 := (H.boxcell (.tail _ (.tail _ (.tail _ (.tail _ (.tail _ (.tail _ (.tail _ (.head _)))))))) 0 _ rfl).1; have z1 := (H.boxcell (.tail _ (.tail _ (.tail _ (.tail _ (.tail _ (.tail _ (.tail _ (.head _)))))))) 1 _ rfl).1; generalize hf : atN rs rs.length sv = f0 at hway; have hway := hide (show wayB ⟨a, b⟩ rs r = if decide (0 ≤ sb) = true then f0.getD (-1) else -1 by rw [hway.out]; simp); generalize decide (0 ≤ sb) = b0 at hway hst
          go_upto_region 15 with (first
            | (go_at_call 19; refine (hst.out _ (H.arg hways)).mono ?_; rintro e W6 ⟨rfl, hm⟩; replace H := H.call hm)
            | ((with_reducible refine gate_dst (N := 62) rfl ?_); refine wp_lookup skeys (.tail _ (.tail _ (.tail _ (.tail _ (.tail _ (.head _)))))) H rfl _ _ _ rfl Try.underlying69 (z := .int .i64 0) (fun _ => by rfl) rfl sv rfl hvk ?_))
          go_cut [68] from 41 to 127 (fun v68 W => v68 = .bool (b0 && f0.isSome) ∧ Mem w W [] [box gr 51 [.string (bs r.name), .slice A2 r.nets.length n2, .slice A3 r.links.length n3, .slice A4 r.ways.length n4, .int .i64 r.at_], own bool 4 v1 ((rs.take k).map (orgB ⟨a, b⟩) ++ [orgB ⟨a, b⟩ r]), own (int .i64) 3 vs ((rs.take k).map (wayB ⟨a, b⟩ rs)), own (slice edR) 52 ve ((rs.take k).map (edgesB ⟨a, b⟩ ms rs)), box go 42 [v1, vs, ve], mapOf ks (Value.int .i64) oks gm cnt (atN rs rs.length), box (g + 1 + 1) 42 [.slice none 0 0, .slice none 0 0, .slice none 0 0], box (g + 1) 36 [.int .u32 a, .int .i64 b], box g 30 [.slice A0 ms.length c0, .slice (some ad) rs.length c1]])
          case first =>
            cases b0
            all_goals
              go_wp2; go_meet; exact ⟨by simp, H⟩
          case rest =>
            clear H x0 x1 x2 x3 x4 z0 z1; obtain ⟨rfl, H⟩ := hcut; go_upto_if 68 with (fail); go_cut [11] from 41 to 127 (fun v11 W => v11 = .int .i64 (wayB ⟨a, b⟩ rs r) ∧ Mem w W [] [box gr 51 [.string (bs r.name), .slice A2 r.nets.length n2, .slice A3 r.links.length n3, .slice A4 r.ways.length n4, .int .i64 r.at_], own bool 4 v1 ((rs.take k).map (orgB ⟨a, b⟩) ++ [orgB ⟨a, b⟩ r]), own (int .i64) 3 vs ((rs.take k).map (wayB ⟨a, b⟩ rs)), own (slice edR) 52 ve ((rs.take k).map (edgesB ⟨a, b⟩ ms rs)), box go 42 [v1, vs, ve], mapOf ks (Value.int .i64) oks gm cnt (atN rs rs.length), box (g + 1 + 1) 42 [.slice none 0 0, .slice none 0 0, .slice none 0 0], box (g + 1) 36 [.int .u32 a, .int .i64 b], box g 30 [.slice A0 ms.length c0, .slice (some ad) rs.length c1]])
            case first =>
              cases b0
              · have hway := hide (show wayB ⟨a, b⟩ rs r = -1 from hway.out)
                rw [Bool.false_and]; go_wp2; go_meet; exact ⟨by rw [hway.out], H⟩
              · have hway := hide (show wayB ⟨a, b⟩ rs r = f0.getD (-1) from hway.out)
                clear hf; rw [Bool.true_and]; cases f0
                all_goals
                  simp only [Option.isSome_some, Option.isSome_none]; go_wp2; go_meet; exact ⟨by rw [hway.out]; rfl, H⟩
            case rest =>
              clear H; obtain ⟨rfl, H⟩ := hcut; have x0 := (H.boxcell (.head _) 0 _ rfl).1; have x1 := (H.boxcell (.head _) 1 _ rfl).1; have x2 := (H.boxcell (.head _) 2 _ rfl).1; have x3 := (H.boxcell (.head _) 3 _ rfl).1; have x4 := (H.boxcell (.head _) 4 _ rfl).1; have y0 := (H.boxcell (.tail _ (.tail _ (.tail _ (.tail _ (.head _))))) 0 _ rfl).1; have y1 := (H.boxcell (.tail _ (.tail _ (.tail _ (.tail _ (.head _))))) 1 _ rfl).1; have y2 := (H.boxcell (.tail _ (.tail _ (.tail _ (.tail _ (.head _))))) 2 _ rfl).1
              go_wp2_with (first
                | ((with_reducible refine gate_dst (N := 74) rfl ?_); refine wp_append (H.pull (l1 := [_, _])) rfl _ _ _ (.int .i64 0) 8 rfl Try.underlying39 info_int rfl (by decide) (by decide) (wayB ⟨a, b⟩ rs r) [.int .i64 (wayB ⟨a, b⟩ rs r)] rfl rfl (fun _ _ => rfl) (by simp; omega) ?_; clear H x0 x1 x2 x3 x4 y0 y1 y2; intro v2 W7 H; have hv2 := hide (H.one (.head _)))
                | (refine wp_stbox (H.pull (l1 := [_, _, _, _])) rfl _ _ _ rfl 1 rfl v2 rfl [v2] (by obtain ⟨_, _, e⟩ := hv2.out; rw [e]; rfl) (by kernel_rfl) (by obtain ⟨_, _, e⟩ := hv2.out; rw [e]; rfl) (Nat.le_of_ble_eq_true rfl) [v1, v2, ve] rfl ?_; clear H; intro W8 H; have x0 := (H.boxcell (.tail _ (.tail _ (.head _))) 0 _ rfl).1; have x1 := (H.boxcell (.tail _ (.tail _ (.head _))) 1 _ rfl).1; have x2 := (H.boxcell (.tail _ (.tail _ (.head _))) 2 _ rfl).1; have x3 := (H.boxcell (.tail _ (.tail _ (.head _))) 3 _ rfl).1; have x4 := (H.boxcell (.tail _ (.tail _ (.head _))) 4 _ rfl).1))
              replace H := H.nilItem edR 55; have hll := hlinks.len; unfold maxLen at hll; go_loopw [16, 79] (fun v16 v79 W => ∃ j : Nat, j ≤ r.links.length ∧ v79 = .int .i64 j ∧ Mem w W [] [own edR 55 v16 ((r.links.take j).filterMap (edgeB ⟨a, b⟩ ms rs r)), box go 42 [v1, v2, ve], own (int .i64) 3 v2 ((rs.take k).map (wayB ⟨a, b⟩ rs) ++ [wayB ⟨a, b⟩ rs r]), box gr 51 [.string (bs r.name), .slice A2 r.nets.length n2, .slice A3 r.links.length n3, .slice A4 r.ways.length n4, .int .i64 r.at_], own bool 4 v1 ((rs.take k).map (orgB ⟨a, b⟩) ++ [orgB ⟨a, b⟩ r]), own (slice edR) 52 ve ((rs.take k).map (edgesB ⟨a, b⟩ ms rs)), mapOf ks (Value.int .i64) oks gm cnt (atN rs rs.length), box (g + 1 + 1) 42 [.slice none 0 0, .slice none 0 0, .slice none 0 0], box (g + 1) 36 [.int .u32 a, .int .i64 b], box g 30 [.slice A0 ms.length c0, .slice (some ad) rs.length c1]]) (fun _ v79 _ => r.links.length - (intOf v79).toNat)
              case atStart => exact ⟨0, Nat.zero_le _, rfl, H⟩
              case round =>
                clear H x0 x1 x2 x3 x4; obtain ⟨j, hj, rfl, H⟩ := hrel; by_cases hjl : j < r.links.length
                · obtain ⟨l, hlj⟩ : ∃ l, r.links[j]? = some l := ⟨_, List.getElem?_eq_getElem hjl⟩
                  have hlo := hrp l (List.mem_of_getElem? hlj); obtain ⟨al, rfl, hxl⟩ := hlinks.flat1 hlj; have hxl := hide (oldcells H (cs := [.string (bs l.peer), .int .i64 l.cost, .string (bs l.imp), .string (bs l.exp), .int .i64 l.at_]) hxl)
                  go_upto_region 23 with (first
                    | ((with_reducible refine gate_dst (N := 82) rfl ?_); refine wp_ldcells [.string (bs l.peer), .int .i64 l.cost, .string (bs l.imp), .string (bs l.exp), .int .i64 l.at_] hxl.out rfl _ _ rfl rfl _ Try.underlying47 rfl (by kernel_rfl) ?_)
                    | ((with_reducible refine gate_dst (N := 18) rfl ?_); refine wp_alloc H rfl _ rfl _ info_lk _ rfl ?_; clear H hxl; intro gl W9 H)
                    | (refine wp_stbox H rfl _ _ _ rfl 0 rfl _ rfl _ rfl (by kernel_rfl) rfl (Nat.le_of_ble_eq_true rfl) [.string (bs l.peer), .int .i64 l.cost, .string (bs l.imp), .string (bs l.exp), .int .i64 l.at_] rfl ?_; clear H; intro W10 H; have x0 := (H.boxcell (.head _) 0 _ rfl).1; have x1 := (H.boxcell (.head _) 1 _ rfl).1; have x2 := (H.boxcell (.head _) 2 _ rfl).1; have x3 := (H.boxcell (.head _) 3 _ rfl).1; have x4 := (H.boxcell (.head _) 4 _ rfl).1)
                    | ((with_reducible refine gate_dst (N := 87) rfl ?_); refine wp_lookup skeys (.tail _ (.tail _ (.tail _ (.tail _ (.tail _ (.tail _ (.tail _ (.head _)))))))) H rfl _ _ _ rfl Try.underlying69 (z := .int .i64 0) (fun _ => by rfl) rfl l.peer rfl hlo ?_))
                  have hsn := hide (take_filterMap (edgeB ⟨a, b⟩ ms rs r) r.links j l hlj)
                  cases hk2 : atN rs rs.length l.peer with
                  | none =>
                    (have hnx : Hid ((r.links.take (j + 1)).filterMap (edgeB ⟨a, b⟩ ms rs r) = (r.links.take j).filterMap (edgeB ⟨a, b⟩ ms rs r)) := by rw [Hid, hsn.out]; simp [edgeB, hk2]); go_wp2; go_roundw
                    case rel => exact ⟨j + 1, by omega, by go_num, by rw [hnx.out]; exact H.drop⟩
                    case measure => simp [intOf]; omega
                  | some q =>
                    obtain ⟨kq, hq1, rfl⟩ := atN_lt rs rs.length l.peer q hk2; obtain ⟨r2, hr2⟩ : ∃ r2, rs[kq]? = some r2 := ⟨_, List.getElem?_eq_getElem hq1⟩; obtain ⟨_, B2, p2, B3, p3, B4, p4, e, hx2, -, hlinks2, -⟩ := hr.rt1 hr2; cases e; have hx2 := hide hx2; have hkq0 : 0 ≤ (kq : Int) := by omega
                    have hfe : Hid (edgeB ⟨a, b⟩ ms rs r l = some ⟨kq, l.cost, clausesB ms ((peerB r2.links r.name).getD lk0).exp ⟨a, b⟩, clausesB ms l.imp ⟨a, b⟩⟩) := by
                      rw [Hid, edgeB, hk2]; simp [hr2]
                    have hpc : Hid (∀ W, Row lkR W (· < W.heap.size) B3 r2.links → Calls Try.prog 20 #[.agg #[.string (bs r2.name), .slice B2 r2.nets.length p2, .slice B3 r2.links.length p3, .slice B4 r2.ways.length p4, .int .i64 r2.at_], .string (bs r.name)] W
                        fun e W' => e = .returned (.tuple #[.agg ((peerB r2.links r.name).getD lk0).enc.toArray, .bool (peerB r2.links r.name).isSome]) ∧ Mem W W' [] []) := fun W h => peer_calls h _ _ _ _ r.name
                    generalize (peerB r2.links r.name).getD lk0 = pk at hpc hfe; generalize (peerB r2.links r.name).isSome = pb at hpc; obtain ⟨pp, pc, pi, pe, pa⟩ := pk
                    have hpc : Hid (∀ W, Row lkR W (· < W.heap.size) B3 r2.links → Calls Try.prog 20 #[.agg #[.string (bs r2.name), .slice B2 r2.nets.length p2, .slice B3 r2.links.length p3, .slice B4 r2.ways.length p4, .int .i64 r2.at_], .string (bs r.name)] W
                        fun e W' => e = .returned (.tuple #[.agg #[.string (bs pp), .int .i64 pc, .string (bs pi), .string (bs pe), .int .i64 pa], .bool pb]) ∧ Mem W W' [] []) := hpc
                    have hfe : Hid (edgeB ⟨a, b⟩ ms rs r l = some ⟨kq, l.cost, clausesB ms pe ⟨a, b⟩, clausesB ms l.imp ⟨a, b⟩⟩) := hfe
                    have hS24 : Hid (∀ W' l', Mem w W' [] l' → box gr 51 [.string (bs r.name), .slice A2 r.nets.length n2, .slice (some al) r.links.length n3, .slice A4 r.ways.length n4, .int .i64 r.at_] ∈ l' → box g 30 [.slice A0 ms.length c0, .slice (some ad) rs.length c1] ∈ l' → (W'.cell? ⟨g, 1, none⟩ = some (.slice (some ad) rs.length c1) ∧ W'.cell? ⟨gr, 0, none⟩ = some (.string (bs r.name)) ∧ (∀ (j : Nat) u, ([.string (bs r2.name), .slice B2 r2.nets.length p2, .slice B3 r2.links.length p3, .slice B4 r2.ways.length p4, .int .i64 r2.at_] : List Value)[j]? = some u → W'.cell? (ad.add (kq * 5 + j)) = some u))) := fun W' l' h h1 h2 =>
                      ⟨(h.boxcell h2 1 _ rfl).1, (h.boxcell h1 0 _ rfl).1, oldcells h hx2.out⟩
                    clear hx2 x0 x1 x2 x3 x4; go_upto_region 24 with (fail); go_cut [21, 22] from 80 to 120 (fun v21 v22 W => ∃ gb : Nat, v21 = .pointer (some ⟨gb, 0, none⟩) ∧ Mem w W [] (box gb 47 [.string (bs pp), .int .i64 pc, .string (bs pi), .string (bs pe), .int .i64 pa] :: box gl 47 [.string (bs l.peer), .int .i64 l.cost, .string (bs l.imp), .string (bs l.exp), .int .i64 l.at_] :: [own edR 55 u16 ((r.links.take j).filterMap (edgeB ⟨a, b⟩ ms rs r)), box go 42 [v1, v2, ve], own (int .i64) 3 v2 ((rs.take k).map (wayB ⟨a, b⟩ rs) ++ [wayB ⟨a, b⟩ rs r]), box gr 51 [.string (bs r.name), .slice A2 r.nets.length n2, .slice (some al) r.links.length n3, .slice A4 r.ways.length n4, .int .i64 r.at_], own bool 4 v1 ((rs.take k).map (orgB ⟨a, b⟩) ++ [orgB ⟨a, b⟩ r]), own (slice edR) 52 ve ((rs.take k).map (edgesB ⟨a, b⟩ ms rs)), mapOf ks (Value.int .i64) oks gm cnt (atN rs rs.length), box (g + 1 + 1) 42 [.slice none 0 0, .slice none 0 0, .slice none 0 0], box (g + 1) 36 [.int .u32 a, .int .i64 b], box g 30 [.slice A0 ms.length c0, .slice (some ad) rs.length c1]]))
                    case first =>
                      refine wp_region_mix 13 (fun W' => (W'.cell? ⟨g, 1, none⟩ = some (.slice (some ad) rs.length c1) ∧ W'.cell? ⟨gr, 0, none⟩ = some (.string (bs r.name)) ∧ (∀ (j : Nat) u, ([.string (bs r2.name), .slice B2 r2.nets.length p2, .slice B3 r2.links.length p3, .slice B4 r2.ways.length p4, .int .i64 r2.at_] : List Value)[j]? = some u → W'.cell? (ad.add (kq * 5 + j)) = some u))) (by kernel_rfl) ?_; replace H := H.drew; have hS := hS24.out _ _ H (by simp) (by simp); refine wpAnyM_take (i := 0) (v := ?_) rfl (by kernel_rfl) (by kernel_rfl) (by kernel_rfl) (by kernel_rfl) (fun _ _ _ h => h) hS (Or.inl ⟨by rfl, ?_⟩) ?_; rotate_left
                      · intro w1 hS1
                        (try dsimp only at hS1); go_simp; try with_reducible rfl
                      simp only [Act.put, List.getElem_toArray, List.getElem_cons_succ, List.getElem_cons_zero, List.setIfInBounds_toArray, List.set_cons_zero, List.set_cons_succ]; refine wpAnyM_take (i := 1) (v := ?_) rfl (by kernel_rfl) (by kernel_rfl) (by kernel_rfl) (by kernel_rfl) (fun _ _ _ h => h) hS (Or.inl ⟨by rfl, ?_⟩) ?_; rotate_left
                      · intro w1 hS1
                        (try dsimp only at hS1); go_simp; try with_reducible rfl
                      simp only [Act.put, List.getElem_toArray, List.getElem_cons_succ, List.getElem_cons_zero, List.setIfInBounds_toArray, List.set_cons_zero, List.set_cons_succ]; refine wpAnyM_take (i := 2) (v := ?_) rfl (by kernel_rfl) (by kernel_rfl) (by kernel_rfl) (by kernel_rfl) (fun _ _ _ h => h) hS (Or.inl ⟨by rfl, ?_⟩) ?_; rotate_left
                      · intro w1 hS1
                        (try dsimp only at hS1); go_simp; try with_reducible rfl
                      simp only [Act.put, List.getElem_toArray, List.getElem_cons_succ, List.getElem_cons_zero, List.setIfInBounds_toArray, List.set_cons_zero, List.set_cons_succ]; refine wpAnyM_take (i := 3) (v := ?_) rfl (by kernel_rfl) (by kernel_rfl) (by kernel_rfl) (by kernel_rfl) (fun _ _ _ h => h) hS (Or.inl ⟨by rfl, ?_⟩) ?_; rotate_left
                      · intro w1 hS1
                        (try dsimp only at hS1); go_simp; try with_reducible rfl
                      simp only [Act.put, List.getElem_toArray, List.getElem_cons_succ, List.getElem_cons_zero, List.setIfInBounds_toArray, List.set_cons_zero, List.set_cons_succ]; refine wpAnyM_take (i := 4) (v := .agg #[.string (bs r2.name), .slice B2 r2.nets.length p2, .slice B3 r2.links.length p3, .slice B4 r2.ways.length p4, .int .i64 r2.at_]) rfl (by kernel_rfl) (by kernel_rfl) (by kernel_rfl) (by kernel_rfl) (fun _ _ _ h => h) hS (Or.inl ⟨by rfl, ?_⟩) ?_
                      · intro w1 hS1
                        exact run_ldcells [.string (bs r2.name), .slice B2 r2.nets.length p2, .slice B3 r2.links.length p3, .slice B4 r2.ways.length p4, .int .i64 r2.at_] hS1.2.2 _ _ rfl rfl _ Try.underlying51 rfl (by kernel_rfl)
                      simp only [Act.put, List.setIfInBounds_toArray, List.set_cons_zero, List.set_cons_succ]; refine wpAnyM_take (i := 5) (v := ?_) rfl (by kernel_rfl) (by kernel_rfl) (by kernel_rfl) (by kernel_rfl) (fun _ _ _ h => h) hS (Or.inl ⟨by rfl, ?_⟩) ?_; rotate_left
                      · intro w1 hS1
                        (try dsimp only at hS1); go_simp; try with_reducible rfl
                      simp only [Act.put, List.getElem_toArray, List.getElem_cons_succ, List.getElem_cons_zero, List.setIfInBounds_toArray, List.set_cons_zero, List.set_cons_succ]; refine wpAnyM_take (i := 6) (v := ?_) rfl (by kernel_rfl) (by kernel_rfl) (by kernel_rfl) (by kernel_rfl) (fun _ _ _ h => h) hS (Or.inl ⟨by rfl, ?_⟩) ?_; rotate_left
                      · intro w1 hS1
                        (try dsimp only at hS1); go_simp; try with_reducible rfl
                      simp only [Act.put, List.getElem_toArray, List.getElem_cons_succ, List.getElem_cons_zero, List.setIfInBounds_toArray, List.set_cons_zero, List.set_cons_succ]; refine wpAnyM_two (i := 7) (j := 11) rfl rfl (by kernel_rfl) ?_ ?_
                      · intro K' hK
                        go_wp2_with (go_at_call 20; refine (hpc.out _ (H.arg hlinks2)).mono ?_; rintro e W6 ⟨rfl, hm⟩; replace H := H.call hm); refine hK.out _ _ (fun hlt => hS24.out _ _ H (by simp) (by simp)) ?_; clear hK K'; have hS := hS24.out _ _ H (by simp) (by simp); refine wpAnyM_take (i := 8) (v := ?_) rfl (by kernel_rfl) (by kernel_rfl) (by kernel_rfl) (by kernel_rfl) (fun _ _ _ h => h) hS (Or.inl ⟨by rfl, ?_⟩) ?_; rotate_left
                        · intro w1 hS1
                          (try dsimp only at hS1); go_simp; try with_reducible rfl
                        simp only [Act.put, List.getElem_toArray, List.getElem_cons_succ, List.getElem_cons_zero, List.setIfInBounds_toArray, List.set_cons_zero, List.set_cons_succ]; refine wpAnyM_take (i := 9) (v := ?_) rfl (by kernel_rfl) (by kernel_rfl) (by kernel_rfl) (by kernel_rfl) (fun _ _ _ h => h) hS (Or.inl ⟨by rfl, ?_⟩) ?_; rotate_left
                        · intro w1 hS1
                          (try dsimp only at hS1); go_simp; try with_reducible rfl
                        simp only [Act.put, List.getElem_toArray, List.getElem_cons_succ, List.getElem_cons_zero, List.setIfInBounds_toArray, List.set_cons_zero, List.set_cons_succ]; refine wpAnyM_take (i := 10) (v := ?_) rfl (by kernel_rfl) (by kernel_rfl) (by kernel_rfl) (by kernel_rfl) (fun _ _ _ h => h) hS (Or.inl ⟨by rfl, ?_⟩) ?_; rotate_left
                        · intro w1 hS1
                          (try dsimp only at hS1); go_simp; try with_reducible rfl
                        simp only [Act.put, List.getElem_toArray, List.getElem_cons_succ, List.getElem_cons_zero, List.setIfInBounds_toArray, List.set_cons_zero, List.set_cons_succ]; refine wpAnyM_one (i := 11) rfl (by kernel_rfl) ?_; intro K' hK; go_wp2_with (((with_reducible refine gate_dst (N := 21) rfl ?_); refine wp_alloc H rfl _ rfl _ info_lk _ rfl ?_; clear H; intro gb W4 H)); refine hK.out _ _ (fun hlt => hS24.out _ _ H (by simp) (by simp)) ?_; clear hK K'; refine wpAnyM_one (i := 12) rfl (by kernel_rfl) ?_; intro K' hK; go_wp2_with ((refine wp_stbox H rfl _ _ _ rfl 0 rfl _ rfl _ rfl (by kernel_rfl) rfl (Nat.le_of_ble_eq_true rfl) [.string (bs pp), .int .i64 pc, .string (bs pi), .string (bs pe), .int .i64 pa] rfl ?_; clear H; intro W5 H)); refine hK.out _ _ (fun hlt => hS24.out _ _ H (by simp) (by simp)) ?_; clear hK K'; refine wpAnyM_one (i := 13) rfl (by kernel_rfl) ?_; intro K' hK; go_wp2_with (fail); refine hK.out _ _ (fun hlt => absurd hlt (by omega)) ?_; clear hK K'; refine wpAnyM_done (by kernel_rfl) ?_ _; go_wp2; go_meet; exact ⟨_, rfl, H⟩
                      · intro K' hK
                        go_wp2_with ((with_reducible refine gate_dst (N := 21) rfl ?_); refine wp_alloc H rfl _ rfl _ info_lk _ rfl ?_; clear H; intro gb W4 H); refine hK.out _ _ (fun hlt => hS24.out _ _ H (by simp) (by simp)) ?_; clear hK K'; refine wpAnyM_one (i := 7) rfl (by kernel_rfl) ?_; intro K' hK; go_wp2_with ((go_at_call 20; refine (hpc.out _ (H.arg hlinks2)).mono ?_; rintro e W6 ⟨rfl, hm⟩; replace H := H.call hm)); refine hK.out _ _ (fun hlt => hS24.out _ _ H (by simp) (by simp)) ?_; clear hK K'; have hS := hS24.out _ _ H (by simp) (by simp); refine wpAnyM_take (i := 8) (v := ?_) rfl (by kernel_rfl) (by kernel_rfl) (by kernel_rfl) (by kernel_rfl) (fun _ _ _ h => h) hS (Or.inl ⟨by rfl, ?_⟩) ?_; rotate_left
                        · intro w1 hS1
                          (try dsimp only at hS1); go_simp; try with_reducible rfl
                        simp only [Act.put, List.getElem_toArray, List.getElem_cons_succ, List.getElem_cons_zero, List.setIfInBounds_toArray, List.set_cons_zero, List.set_cons_succ]; refine wpAnyM_take (i := 9) (v := ?_) rfl (by kernel_rfl) (by kernel_rfl) (by kernel_rfl) (by kernel_rfl) (fun _ _ _ h => h) hS (Or.inl ⟨by rfl, ?_⟩) ?_; rotate_left
                        · intro w1 hS1
                          (try dsimp only at hS1); go_simp; try with_reducible rfl
                        simp only [Act.put, List.getElem_toArray, List.getElem_cons_succ, List.getElem_cons_zero, List.setIfInBounds_toArray, List.set_cons_zero, List.set_cons_succ]; refine wpAnyM_take (i := 10) (v := ?_) rfl (by kernel_rfl) (by kernel_rfl) (by kernel_rfl) (by kernel_rfl) (fun _ _ _ h => h) hS (Or.inl ⟨by rfl, ?_⟩) ?_; rotate_left
                        · intro w1 hS1
                          (try dsimp only at hS1); go_simp; try with_reducible rfl
                        simp only [Act.put, List.getElem_toArray, List.getElem_cons_succ, List.getElem_cons_zero, List.setIfInBounds_toArray, List.set_cons_zero, List.set_cons_succ]; refine wpAnyM_one (i := 12) rfl (by kernel_rfl) ?_; intro K' hK; go_wp2_with ((refine wp_stbox H rfl _ _ _ rfl 0 rfl _ rfl _ rfl (by kernel_rfl) rfl (Nat.le_of_ble_eq_true rfl) [.string (bs pp), .int .i64 pc, .string (bs pi), .string (bs pe), .int .i64 pa] rfl ?_; clear H; intro W5 H)); refine hK.out _ _ (fun hlt => hS24.out _ _ H (by simp) (by simp)) ?_; clear hK K'; refine wpAnyM_one (i := 13) rfl (by kernel_rfl) ?_; intro K' hK; go_wp2_with (fail); refine hK.out _ _ (fun hlt => absurd hlt (by omega)) ?_; clear hK K'; refine wpAnyM_done (by kernel_rfl) ?_ _; go_wp2; go_meet; exact ⟨_, rfl, H⟩
                    case rest =>
                      clear H; obtain ⟨gb, rfl, H⟩ := hcut
                      have hS25 : Hid (∀ W' R' l', MemM (fun _ => False) (fun _ => False) w W' R' l' → box gb 47 [.string (bs pp), .int .i64 pc, .string (bs pi), .string (bs pe), .int .i64 pa] ∈ l' → box gl 47 [.string (bs l.peer), .int .i64 l.cost, .string (bs l.imp), .string (bs l.exp), .int .i64 l.at_] ∈ l' → box (g + 1) 36 [.int .u32 a, .int .i64 b] ∈ l' → box g 30 [.slice A0 ms.length c0, .slice (some ad) rs.length c1] ∈ l' → (W'.cell? ⟨gl, 1, none⟩ = some (.int .i64 l.cost) ∧ W'.cell? ⟨gl, 2, none⟩ = some (.string (bs l.imp)) ∧ W'.cell? ⟨gb, 3, none⟩ = some (.string (bs pe)) ∧ W'.cell? ⟨g, 0, none⟩ = some (.slice A0 ms.length c0) ∧ W'.cell? ⟨g, 1, none⟩ = some (.slice (some ad) rs.length c1) ∧ W'.cell? ⟨g + 1, 0, none⟩ = some (.int .u32 a) ∧ W'.cell? ⟨g + 1, 1, none⟩ = some (.int .i64 b))) := fun W' R' l' h h1 h2 h3 h4 =>
                        ⟨(h.boxcell h2 1 _ rfl).1, (h.boxcell h2 2 _ rfl).1, (h.boxcell h1 3 _ rfl).1, (h.boxcell h4 0 _ rfl).1, (h.boxcell h4 1 _ rfl).1, (h.boxcell h3 0 _ rfl).1, (h.boxcell h3 1 _ rfl).1⟩
                      (have hcc : Hid (∀ W (name : Str), Row mpR W (· < W.heap.size) A0 ms → Calls Try.prog 21 #[.agg #[.slice A0 ms.length c0, .slice (some ad) rs.length c1], .string (bs name), .agg #[.int .u32 a, .int .i64 b]] W fun e W' => ∃ v, e = .returned v ∧ Mem W W' [] [own clR 81 v (clausesB ms name ⟨a, b⟩)]) := fun W name h => clauses_calls h hcl _ rfl name a b); have hfl : ((r.links.take j).filterMap (edgeB ⟨a, b⟩ ms rs r)).length ≤ 1000000000 := Nat.le_trans (List.length_filterMap_le _ _) (by rw [List.length_take]; omega); have hacc := hide (show (r.links.take (j + 1)).filterMap (edgeB ⟨a, b⟩ ms rs r) = (r.links.take j).filterMap (edgeB ⟨a, b⟩ ms rs r) ++ [⟨kq, l.cost, clausesB ms pe ⟨a, b⟩, clausesB ms l.imp ⟨a, b⟩⟩] by rw [hsn.out, hfe.out]; rfl); clear hsn hfe; go_upto_region 25 with (fail); refine wp_region_mix 17 (fun W' => (W'.cell? ⟨gl, 1, none⟩ = some (.int .i64 l.cost) ∧ W'.cell? ⟨gl, 2, none⟩ = some (.string (bs l.imp)) ∧ W'.cell? ⟨gb, 3, none⟩ = some (.string (bs pe)) ∧ W'.cell? ⟨g, 0, none⟩ = some (.slice A0 ms.length c0) ∧ W'.cell? ⟨g, 1, none⟩ = some (.slice (some ad) rs.length c1) ∧ W'.cell? ⟨g + 1, 0, none⟩ = some (.int .u32 a) ∧ W'.cell? ⟨g + 1, 1, none⟩ = some (.int .i64 b))) (by kernel_rfl) ?_; replace H := H.drew; have hS := hS25.out _ _ _ H (by simp) (by simp) (by simp) (by simp); refine wpAnyM_take (i := 0) (v := ?_) rfl (by kernel_rfl) (by kernel_rfl) (by kernel_rfl) (by kernel_rfl) (fun _ _ _ h => h) hS (Or.inl ⟨by rfl, ?_⟩) ?_; rotate_left
                      · intro w1 hS1
                        (try dsimp only at hS1); go_simp; try with_reducible rfl
                      simp only [Act.put, List.getElem_toArray, List.getElem_cons_succ, List.getElem_cons_zero, List.setIfInBounds_toArray, List.set_cons_zero, List.set_cons_succ]; refine wpAnyM_take (i := 1) (v := ?_) rfl (by kernel_rfl) (by kernel_rfl) (by kernel_rfl) (by kernel_rfl) (fun _ _ _ h => h) hS (Or.inl ⟨by rfl, ?_⟩) ?_; rotate_left
                      · intro w1 hS1
                        (try dsimp only at hS1); go_simp; try with_reducible rfl
                      simp only [Act.put, List.getElem_toArray, List.getElem_cons_succ, List.getElem_cons_zero, List.setIfInBounds_toArray, List.set_cons_zero, List.set_cons_succ]; refine wpAnyM_take (i := 2) (v := ?_) rfl (by kernel_rfl) (by kernel_rfl) (by kernel_rfl) (by kernel_rfl) (fun _ _ _ h => h) hS (Or.inl ⟨by rfl, ?_⟩) ?_; rotate_left
                      · intro w1 hS1
                        (try dsimp only at hS1); go_simp; try with_reducible rfl
                      simp only [Act.put, List.getElem_toArray, List.getElem_cons_succ, List.getElem_cons_zero, List.setIfInBounds_toArray, List.set_cons_zero, List.set_cons_succ]; refine wpAnyM_take (i := 3) (v := ?_) rfl (by kernel_rfl) (by kernel_rfl) (by kernel_rfl) (by kernel_rfl) (fun _ _ _ h => h) hS (Or.inl ⟨by rfl, ?_⟩) ?_; rotate_left
                      · intro w1 hS1
                        (try dsimp only at hS1); go_simp; try with_reducible rfl
                      simp only [Act.put, List.getElem_toArray, List.getElem_cons_succ, List.getElem_cons_zero, List.setIfInBounds_toArray, List.set_cons_zero, List.set_cons_succ]; refine wpAnyM_take (i := 4) (v := ?_) rfl (by kernel_rfl) (by kernel_rfl) (by kernel_rfl) (by kernel_rfl) (fun _ _ _ h => h) hS (Or.inl ⟨by rfl, ?_⟩) ?_; rotate_left
                      · intro w1 hS1
                        (try dsimp only at hS1); go_simp; try with_reducible rfl
                      simp only [Act.put, List.getElem_toArray, List.getElem_cons_succ, List.getElem_cons_zero, List.setIfInBounds_toArray, List.set_cons_zero, List.set_cons_succ]; refine wpAnyM_take (i := 5) (v := ?_) rfl (by kernel_rfl) (by kernel_rfl) (by kernel_rfl) (by kernel_rfl) (fun _ _ _ h => h) hS (Or.inl ⟨by rfl, ?_⟩) ?_; rotate_left
                      · intro w1 hS1
                        (try dsimp only at hS1); go_simp; try with_reducible rfl
                      simp only [Act.put, List.getElem_toArray, List.getElem_cons_succ, List.getElem_cons_zero, List.setIfInBounds_toArray, List.set_cons_zero, List.set_cons_succ]; refine wpAnyM_take (i := 6) (v := ?_) rfl (by kernel_rfl) (by kernel_rfl) (by kernel_rfl) (by kernel_rfl) (fun _ _ _ h => h) hS (Or.inl ⟨by rfl, ?_⟩) ?_; rotate_left
                      · intro w1 hS1
                        (try dsimp only at hS1); go_simp; try with_reducible rfl
                      simp only [Act.put, List.getElem_toArray, List.getElem_cons_succ, List.getElem_cons_zero, List.setIfInBounds_toArray, List.set_cons_zero, List.set_cons_succ]; refine wpAnyM_take (i := 7) (v := ?_) rfl (by kernel_rfl) (by kernel_rfl) (by kernel_rfl) (by kernel_rfl) (fun _ _ _ h => h) hS (Or.inl ⟨by rfl, ?_⟩) ?_; rotate_left
                      · intro w1 hS1
                        (try dsimp only at hS1); go_simp; try with_reducible rfl
                      simp only [Act.put, List.getElem_toArray, List.getElem_cons_succ, List.getElem_cons_zero, List.setIfInBounds_toArray, List.set_cons_zero, List.set_cons_succ]; refine wpAnyM_take (i := 9) (v := ?_) rfl (by kernel_rfl) (by kernel_rfl) (by kernel_rfl) (by kernel_rfl) (fun _ _ _ h => h) hS (Or.inl ⟨by rfl, ?_⟩) ?_; rotate_left
                      · intro w1 hS1
                        (try dsimp only at hS1); go_simp; try with_reducible rfl
                      simp only [Act.put, List.getElem_toArray, List.getElem_cons_succ, List.getElem_cons_zero, List.setIfInBounds_toArray, List.set_cons_zero, List.set_cons_succ]; refine wpAnyM_take (i := 10) (v := ?_) rfl (by kernel_rfl) (by kernel_rfl) (by kernel_rfl) (by kernel_rfl) (fun _ _ _ h => h) hS (Or.inl ⟨by rfl, ?_⟩) ?_; rotate_left
                      · intro w1 hS1
                        (try dsimp only at hS1); go_simp; try with_reducible rfl
                      simp only [Act.put, List.getElem_toArray, List.getElem_cons_succ, List.getElem_cons_zero, List.setIfInBounds_toArray, List.set_cons_zero, List.set_cons_succ]; refine wpAnyM_take (i := 11) (v := ?_) rfl (by kernel_rfl) (by kernel_rfl) (by kernel_rfl) (by kernel_rfl) (fun _ _ _ h => h) hS (Or.inl ⟨by rfl, ?_⟩) ?_; rotate_left
                      · intro w1 hS1
                        (try dsimp only at hS1); go_simp; try with_reducible rfl
                      simp only [Act.put, List.getElem_toArray, List.getElem_cons_succ, List.getElem_cons_zero, List.setIfInBounds_toArray, List.set_cons_zero, List.set_cons_succ]; refine wpAnyM_take (i := 12) (v := ?_) rfl (by kernel_rfl) (by kernel_rfl) (by kernel_rfl) (by kernel_rfl) (fun _ _ _ h => h) hS (Or.inl ⟨by rfl, ?_⟩) ?_; rotate_left
                      · intro w1 hS1
                        (try dsimp only at hS1); go_simp; try with_reducible rfl
                      simp only [Act.put, List.getElem_toArray, List.getElem_cons_succ, List.getElem_cons_zero, List.setIfInBounds_toArray, List.set_cons_zero, List.set_cons_succ]; refine wpAnyM_one (i := 8) rfl (by kernel_rfl) ?_; intro K' hK; go_wp2_with (go_at_call 21; refine (hcc.out _ pe (H.arg hmr)).mono ?_; rintro e W6 ⟨x3, rfl, hm3⟩; replace H := H.call hm3; clear hm3; obtain ⟨B5, p5, rfl, hp5, H1⟩ := MemM.still H; clear H; have H := H1; clear H1); refine hK.out _ _ (fun hlt => hS25.out _ _ _ H (by simp) (by simp) (by simp) (by simp)) ?_; clear hK K'; refine wpAnyM_one (i := 13) rfl (by kernel_rfl) ?_; intro K' hK; go_wp2_with (go_at_call 21; refine (hcc.out _ l.imp (H.arg hmr)).mono ?_; rintro e W6 ⟨x4, rfl, hm4⟩; replace H := H.call hm4; clear hm4; obtain ⟨B6, p6, rfl, hp6, H1⟩ := MemM.still H; clear H; have H := H1; clear H1); refine hK.out _ _ (fun hlt => hS25.out _ _ _ H (by simp) (by simp) (by simp) (by simp)) ?_; clear hK K'; have hS := hS25.out _ _ _ H (by simp) (by simp) (by simp) (by simp); refine wpAnyM_take (i := 14) (v := ?_) rfl (by kernel_rfl) (by kernel_rfl) (by kernel_rfl) (by kernel_rfl) (fun _ _ _ h => h) hS (Or.inl ⟨by rfl, ?_⟩) ?_; rotate_left
                      · intro w1 hS1
                        (try dsimp only at hS1); go_simp; try with_reducible rfl
                      simp only [Act.put, List.getElem_toArray, List.getElem_cons_succ, List.getElem_cons_zero, List.setIfInBounds_toArray, List.set_cons_zero, List.set_cons_succ]; refine wpAnyM_one (i := 15) rfl (by kernel_rfl) ?_; intro K' hK; go_wp2_with (fail); refine hK.out _ _ (fun hlt => hS25.out _ _ _ (H.alloc _) (by simp) (by simp) (by simp) (by simp)) ?_; clear hK K'; refine wpAnyM_one (i := 16) rfl (by kernel_rfl) ?_; intro K' hK; go_wp2_with (first | ((with_reducible refine gate_dst (N := 119) rfl ?_); refine wp_append H.pull2 rfl _ _ _ (.agg #[.int .i64 0, .int .i64 0, .slice none 0 0, .slice none 0 0]) 64 rfl Try.underlying52 info_ed rfl (by decide) (by decide) ⟨kq, l.cost, clausesB ms pe ⟨a, b⟩, clausesB ms l.imp ⟨a, b⟩⟩ [.int .i64 kq, .int .i64 l.cost, .slice B5 (clausesB ms pe ⟨a, b⟩).length p5, .slice B6 (clausesB ms l.imp ⟨a, b⟩).length p6] rfl rfl (fun F hF => ⟨_, _, rfl, rfl, _, _, rfl, rfl, _, _, rfl, ⟨B5, p5, rfl, hp5, row_of_P (hF _ (.tail _ (.head _)))⟩, _, _, rfl, ⟨B6, p6, rfl, hp6, row_of_P (hF _ (.head _))⟩, rfl⟩) (by omega) ?_; clear H; intro v3 W7 H)); refine hK.out _ _ (fun hlt => hS25.out _ _ _ H (by simp) (by simp) (by simp) (by simp)) ?_; clear hK K'; refine wpAnyM_one (i := 17) rfl (by kernel_rfl) ?_; intro K' hK; go_wp2_with (fail); refine hK.out _ _ (fun hlt => absurd hlt (by omega)) ?_; clear hK K'; refine wpAnyM_done (by kernel_rfl) ?_ _; clear hS hS25 hcc; have H := H.noR.pull1.drop.pull1.drop; go_wp2; go_roundw
                      case rel => exact ⟨j + 1, by omega, by go_num, by rw [hacc.out]; exact H⟩
                      case measure => simp [intOf]; omega
                · obtain rfl : j = r.links.length := by omega
                  rw [List.take_length] at H; obtain ⟨A5, p5, rfl, hp5, H1⟩ := MemM.still H; clear H; have H := H1; clear H1; have x0 := (H.boxcell (.head _) 0 _ rfl).1; have x1 := (H.boxcell (.head _) 1 _ rfl).1; have x2 := (H.boxcell (.head _) 2 _ rfl).1
                  go_wp2_with (first
                    | ((with_reducible refine gate_dst (N := 125) rfl ?_); refine wp_append (H.pull (l1 := [_, _, _, _])) rfl _ _ _ (.slice none 0 0) 24 rfl Try.underlying40 info_es rfl (by decide) (by decide) (r.links.filterMap (edgeB ⟨a, b⟩ ms rs r)) [.slice A5 (r.links.filterMap (edgeB ⟨a, b⟩ ms rs r)).length p5] rfl rfl (slK (d := edR) hp5 (.head _)) (by rw [List.length_map, List.length_take]; omega) ?_; clear H x0 x1 x2; intro v3 W7 H; have hv3 := hide (H.one (.head _)))
                    | (refine wp_stbox H.pull1 rfl _ _ _ rfl 2 rfl v3 rfl [v3] (by obtain ⟨_, _, e⟩ := hv3.out; rw [e]; rfl) (by kernel_rfl) (by obtain ⟨_, _, e⟩ := hv3.out; rw [e]; rfl) (Nat.le_of_ble_eq_true rfl) [v1, v2, v3] rfl ?_; clear H; intro W8 H))
                  have H := (((H.noR.pull (l1 := [_, _, _])).drop.pull1).pull2).pull (l1 := [_, _, _]); go_roundw
                  case rel => exact ⟨k + 1, v1, v2, v3, by omega, by go_num, by rw [hto.out, htw.out, hte.out]; exact H⟩
                  case measure => simp [intOf]; omega
        · obtain rfl : k = rs.length := by omega
          rw [List.take_length] at H
          obtain ⟨A6, n6, p6, rfl⟩ : ∃ A n c, ve = .slice A n c := by
            obtain ⟨A, c, e⟩ := H.one (d := slice edR) (e := 52) (v := ve) (xs := rs.map (edgesB ⟨a, b⟩ ms rs)) (by simp); exact ⟨A, _, c, e⟩
          obtain ⟨A7, n7, p7, rfl⟩ : ∃ A n c, vo = .slice A n c := by
            obtain ⟨A, c, e⟩ := H.one (d := bool) (e := 4) (v := vo) (xs := rs.map (orgB ⟨a, b⟩)) (by simp); exact ⟨A, _, c, e⟩
          obtain ⟨A8, n8, p8, rfl⟩ : ∃ A n c, vs = .slice A n c := by
            obtain ⟨A, c, e⟩ := H.one (d := int .i64) (e := 3) (v := vs) (xs := rs.map (wayB ⟨a, b⟩ rs)) (by simp); exact ⟨A, _, c, e⟩
          have x0 := (H.boxcell (.tail _ (.tail _ (.tail _ (.head _)))) 0 _ rfl).1; have x1 := (H.boxcell (.tail _ (.tail _ (.tail _ (.head _)))) 1 _ rfl).1; have x2 := (H.boxcell (.tail _ (.tail _ (.tail _ (.head _)))) 2 _ rfl).1
          go_wp2_with (first
            | (refine wp_stbox (H.pull (l1 := [_, _, _, _, _])) rfl _ _ _ rfl 0 rfl _ rfl _ rfl (by kernel_rfl) rfl (Nat.le_of_ble_eq_true rfl) [.slice A7 n7 p7, .slice A8 n8 p8, .slice A6 n6 p6] rfl ?_; clear H x0 x1 x2; intro W9 H))
          obtain ⟨_, _, _, _, _, _, hgR⟩ := H.item (.head _); (try simp only [Exit.inBlock, Exit.then]); refine bodyPost_ret (results_cell_row rfl _ _ (g + 1 + 1) 42 #[.slice A7 n7 p7, .slice A8 n8 p8, .slice A6 n6 p6] (0, 0) _ rfl hgR Try.underlying42 rfl (by kernel_rfl)) rfl ?_; have H := (((H.drop.pull (l1 := [_, _, _])).drop.pull (l1 := [_, _, _])).drop.pull (l1 := [_, _, _])).drop.pull (l1 := [_, _, _]); exact ⟨_, _, _, rfl, H.drop⟩
end Go.Proofs.Ytnhdfjcecgjlgaa.Low
