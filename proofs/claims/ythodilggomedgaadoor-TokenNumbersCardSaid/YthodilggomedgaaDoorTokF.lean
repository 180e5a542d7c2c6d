/- Plain law: TokenNumbers answers true. -/
import Derived.Test.YthodilggomedgaaDoorTokC
import Derived.Test.YthodilggomedgaaDoorPTkx28
namespace Go.Proofs.YthodilggomedgaaDoor.TokF
open Go.RowKit Go.Proofs.YthodilggomedgaaDoor.PTk Go.Proofs.YthodilggomedgaaDoorW.PrintWords Go.Proofs.YthodilggomedgaaDoorW.PrintLast Go.Proofs.YthodilggomedgaaDoorW.PrintMore Go.Proofs.YthodilggomedgaaDoor.Dec Go.Proofs.YthodilggomedgaaDoor.TokM Go.Proofs.YthodilggomedgaaDoor.TokP Go.Proofs.YthodilggomedgaaDoor.TokC
set_option linter.unusedVariables false
set_option linter.unusedSimpArgs false
set_option linter.all false
theorem index_none : ∀ l : List UInt8, (∀ b ∈ l, isD b) → Lib.index l [47] = -1
  | [], _ => rfl
  | b :: l, h => by
    have hb := h b (.head _)
    have e : ([47] : List UInt8).isPrefixOf (b :: l) = false := by
      have : ((47 : UInt8) == b) = false := by
        rw [beq_eq_false_iff_ne]
        intro e
        rw [← e] at hb
        exact absurd hb.1 (by decide)
      simp [List.isPrefixOf, this]
    rw [Lib.index, e, index_none l (fun x hx => h x (.tail _ hx))]
    rfl
theorem parse_dig (s : ByteArray) (hs : s.size ≤ 1000000) (h : ∀ b ∈ s.data.toList, isD b) : ∀ k, 7 ≤ k → prefix_Parse.f k s = some (0, 0, false) := by
  intro k hk
  obtain ⟨k, rfl⟩ : ∃ q, k = q + 1 := ⟨k - 1, by omega⟩
  have e47 : (⟨#[47]⟩ : ByteArray).data.toList = [47] := rfl
  have hcut : strings_Cut.f s (⟨#[47]⟩ : ByteArray) = some (⟨s.data.toList.toArray⟩, ⟨([] : List UInt8).toArray⟩, false) := by
    unfold strings_Cut.f Lib.cut
    rw [if_pos (by omega), e47, index_none _ h]
    rfl
  have hsz : (⟨s.data.toList.toArray⟩ : ByteArray) = s := by cases s; rfl
  rw [hsz] at hcut
  unfold prefix_Parse.f
  rw [hcut, Option.bind_some]
  simp only
  rw [num_some _ _ (by show 0 ≤ _; omega), Option.bind_some]
  have hsp : strings_Split.f s (⟨#[46]⟩ : ByteArray) = some (Lib.splitB (⟨#[46]⟩ : ByteArray) 0 (Lib.countB s (⟨#[46]⟩ : ByteArray)) s) := by
    unfold strings_Split.f
    rw [if_pos ⟨by omega, by decide⟩]
  rw [hsp, Option.bind_some]
  rw [if_neg (by decide), prefix_Parse.j0, if_pos rfl]
theorem dig_bt {s : ByteArray} (h : ∀ b ∈ s.data.toList, isD b) {j : Nat} (hj : j < s.size) : 48 ≤ bt s j ∧ bt s j ≤ 57 := by
  obtain ⟨c, hc, -⟩ := drop_at (l := s.data.toList) (i := j) (by rw [lsz]; exact hj)
  have hb := bt_at hc
  have := h c (List.mem_of_getElem? hc)
  unfold isD at this
  omega
theorem piece_dig (s : ByteArray) (hs : s.size ≤ 1000000) (h : ∀ b ∈ s.data.toList, isD b) (h0 : 0 < s.size) : ∃ r : Pc, (∀ k, 10 ≤ k → token_piece.f k s = some r) ∧ ((okNum s.data.toList ∧ r = ((2, s, ((valF 0 s.data.toList : Nat) : Int), 0, 0, 0, true) : Pc)) ∨ (¬ okNum s.data.toList ∧ r = failT)) := by
  obtain ⟨r, hr, hn⟩ := num_p s hs
  refine ⟨r, fun k hk => ?_, hr⟩
  obtain ⟨k, rfl⟩ : ∃ q, k = q + 1 := ⟨k - 1, by omega⟩
  have hnm : token_Name.f (k + 1) s = some false := by
    have hb := dig_bt h (j := 0) h0
    have e := name_step k s 0 h0 (by omega)
    have hl : lt (bt s (0 : Nat)) = false := by unfold lt; exact decide_eq_false (by omega)
    rw [hl, if_neg (by decide), if_pos rfl] at e
    exact e
  unfold token_piece.f
  rw [hnm, Option.bind_some, if_neg (by decide), parse_dig s hs h (k + 1) (by omega), Option.bind_some, if_neg (by decide)]
  exact hn
theorem cut_dig (s : ByteArray) (hs : s.size ≤ 65536) (h : ∀ b ∈ s.data.toList, isD b) (h0 : 0 < s.size) :
    (okNum s.data.toList ∧ ∃ K, ∀ k, K ≤ k → token_Cut.f k s = some ([⟨2, s, ((valF 0 s.data.toList : Nat) : Int), ⟨0, 0⟩, 0⟩, eof s], none)) ∨ (¬ okNum s.data.toList ∧ ∃ K, ∀ k, K ≤ k → token_Cut.f k s = some ([], some 1)) := by
  have hY : ∀ R, Y s [] 0 R → ∃ K, ∀ k, K ≤ k → token_Cut.f k s = some R := by
    intro R ⟨K, h⟩
    refine ⟨K, fun k hk => ?_⟩
    unfold token_Cut.f
    rw [if_neg (by omega)]
    exact leO_up (F := fun k => token_Cut.l0 k s [] 0) (fun k => (token_Cut.mono_l k).1 _ _ _) hk h
  obtain ⟨r, hr, ho⟩ := piece_dig s (by omega) h h0
  have hx : s.extract 0 s.size = s := ByteArray.extract_zero_size
  have hb0 := dig_bt h (j := 0) h0
  have hb : ¬ bl (bt s (0 : Nat)) := by unfold bl; omega
  have hsn : ¬ sn (bt s (0 : Nat)) ∨ True := Or.inr trivial
  have hn : ∀ j, 0 ≤ j → j < s.size → pt (bt s (j : Int)) = true := by
    intro j _ hj
    have := dig_bt h hj
    have hd : dg (bt s (j : Int)) = true := by unfold dg; exact decide_eq_true (by omega)
    unfold pt
    rw [hd]
    simp
  have hs59 : ¬ sn (bt s (0 : Nat)) := by unfold sn; omega
  have hr' : ∃ K, ∀ k, K ≤ k → token_piece.f k (s.extract 0 s.size) = some r := by rw [hx]; exact ⟨10, hr⟩
  rcases ho with ⟨ho, rfl⟩ | ⟨ho, rfl⟩
  · refine Or.inl ⟨ho, hY _ ?_⟩
    exact Y.word hs (by simp) h0 hb hs59 (by omega) (Nat.le_refl _) (by omega) hn (Or.inl rfl) hr' rfl (Y.eof hs (by simp) (Nat.le_refl _))
  · refine Or.inr ⟨ho, hY _ ?_⟩
    exact Y.bad hs (by simp) h0 hb hs59 (by omega) (Nat.le_refl _) (by omega) hn (Or.inl rfl) hr' rfl
/-- A number's digits as a text. -/
def ds (n : Nat) : ByteArray := ⟨(Lib.decDigits n).toArray⟩
theorem dig_ext : ∀ d : Fin 10, (⟨#[48, 49, 50, 51, 52, 53, 54, 55, 56, 57]⟩ : ByteArray).extract d.val (d.val + 1) = ⟨#[UInt8.ofNat (48 + d.val)]⟩ := by
  intro d
  apply ByteArray.ext
  revert d
  decide
theorem ap_data (a b : ByteArray) : (a ++ b).data.toList = a.data.toList ++ b.data.toList := by
  rw [ByteArray.data_append, Array.toList_append]
theorem toL_inj {a b : ByteArray} (h : a.data.toList = b.data.toList) : a = b := ByteArray.ext (Array.toList_inj.1 h)
theorem ds_step {n : Nat} (h : ¬ n < 10) (acc : ByteArray) : ds (n / 10) ++ ((⟨#[UInt8.ofNat (48 + n % 10)]⟩ : ByteArray) ++ acc) = ds n ++ acc := by
  apply toL_inj
  rw [ap_data, ap_data, ap_data]
  have e : (ds n).data.toList = (ds (n / 10)).data.toList ++ [UInt8.ofNat (48 + n % 10)] := by
    show Lib.decDigits n = Lib.decDigits (n / 10) ++ [UInt8.ofNat (48 + n % 10)]
    rw [Lib.decDigits, dif_neg h]
  rw [e, List.append_assoc]
theorem ds_one {n : Nat} (h : n < 10) : ds n = (⟨#[UInt8.ofNat (48 + n)]⟩ : ByteArray) := by
  unfold ds
  rw [Lib.decDigits_one h]
/-- One step of the digits' loop. -/
theorem num_step (n a : Int) (acc : ByteArray) (rest : Nat) (h : 0 < rest ∨ acc.toList = []) (hz : acc.size + rest ≤ 8589934592) {R : Option Bool} {k : Nat} (hk : maquettelaw06_TokenNumbers.l0 k n a ((⟨#[UInt8.ofNat (48 + rest % 10)]⟩ : ByteArray) ++ acc) ((rest / 10 : Nat) : Int) = R) : maquettelaw06_TokenNumbers.l0 (k + 1) n a acc (rest : Int) = R := by
  have em : Int.tmod (rest : Int) 10 = ((rest % 10 : Nat) : Int) := by rw [Int.tmod_eq_emod_of_nonneg (by omega)]; omega
  have ed : wrap64 (Int.tdiv (rest : Int) 10) = ((rest / 10 : Nat) : Int) := by rw [Int.tdiv_eq_ediv_of_nonneg (by omega)]; unfold wrap64; omega
  have hw : wrap64 (((rest % 10 : Nat) : Int) + 1) = ((rest % 10 + 1 : Nat) : Int) := w1 (by omega)
  have hx := dig_ext ⟨rest % 10, Nat.mod_lt _ (by omega)⟩
  simp only at hx
  have hz1 : (⟨#[UInt8.ofNat (48 + rest % 10)]⟩ : ByteArray).size = 1 := rfl
  rw [maquettelaw06_TokenNumbers.l0, em, hw, ed, Int.toNat_natCast, Int.toNat_natCast, hx, hz1, hk]
  by_cases h0 : (rest : Int) > 0
  · rw [if_pos h0, if_pos (by omega), if_pos (by omega), if_pos (by omega), if_pos (by omega)]
  · rw [if_neg h0, if_pos (h.resolve_left (by omega)), if_pos (by omega), if_pos (by omega), if_pos (by omega), if_pos (by omega)]
theorem num_loop (n a : Int) {R : Option Bool} : ∀ (rest : Nat) (acc : ByteArray), 0 < rest → acc.size + rest ≤ 8589934592 → (∃ k, maquettelaw06_TokenNumbers.l0 k n a (ds rest ++ acc) 0 = R ∧ R ≠ none) → ∃ k, maquettelaw06_TokenNumbers.l0 k n a acc (rest : Int) = R := by
  intro rest
  induction rest using Nat.strongRecOn with
  | _ rest ih =>
    intro acc h0 hz hk
    by_cases h1 : rest < 10
    · obtain ⟨k, hk, -⟩ := hk
      refine ⟨k + 1, num_step n a acc rest (Or.inl h0) hz ?_⟩
      rw [ds_one h1] at hk
      rw [show rest % 10 = rest by omega, show rest / 10 = 0 by omega]
      exact hk
    · obtain ⟨k, hk'⟩ := ih (rest / 10) (by omega) ((⟨#[UInt8.ofNat (48 + rest % 10)]⟩ : ByteArray) ++ acc) (by omega) (by
        rw [ByteArray.size_append]
        have : (⟨#[UInt8.ofNat (48 + rest % 10)]⟩ : ByteArray).size = 1 := rfl
        omega) (by rw [ds_step h1]; exact hk)
      exact ⟨k + 1, num_step n a acc rest (Or.inl h0) hz hk'⟩
theorem num_digits (n : Nat) (hn : n < 4294967296) (a : Int) {R : Bool} (hk : ∃ k, maquettelaw06_TokenNumbers.l0 k n a (ds n) 0 = some R) : ∃ k, maquettelaw06_TokenNumbers.l0 k n a (⟨#[]⟩ : ByteArray) (n : Int) = some R := by
  by_cases h0 : n = 0
  · subst h0
    obtain ⟨k, hk⟩ := hk
    refine ⟨k + 1, num_step _ a _ 0 (Or.inr (by rw [ByteArray.toList_eq])) (by show 0 + 0 ≤ _; omega) ?_⟩
    have e : ((⟨#[UInt8.ofNat (48 + 0 % 10)]⟩ : ByteArray) ++ (⟨#[]⟩ : ByteArray)) = ds 0 := by
      rw [ds_one (by omega)]
      apply toL_inj
      rw [ap_data]
      rfl
    rw [e]
    exact hk
  · refine num_loop _ a n _ (by omega) (by show 0 + n ≤ _; omega) ?_
    have e : ds n ++ (⟨#[]⟩ : ByteArray) = ds n := by
      apply toL_inj
      rw [ap_data]
      simp
    rw [e]
    obtain ⟨k, hk⟩ := hk
    exact ⟨k, hk, by simp⟩
theorem eq_num : api_Number.f (some 1) = some 1 := rfl
theorem eq_place : api_Place.f (some 1) = some 0 := rfl
theorem j2_bad (k : Nat) (n : Int) (x : ByteArray) : maquettelaw06_TokenNumbers.j2 (k + 1) n x [] (some 1) true = some true := by
  rw [maquettelaw06_TokenNumbers.j2, if_pos rfl, eq_num, Option.bind_some, if_pos rfl, eq_place, Option.bind_some, if_pos rfl]
  rfl
theorem ds_size (n : Nat) : (ds n).size = (Lib.decDigits n).length := by
  rw [← lsz]
  rfl
theorem ltoknum (n a : Int) (hn : 0 ≤ n ∧ n < 4294967296) : ∃ k, maquettelaw06_TokenNumbers.f k n a = some true := by
  obtain ⟨n, rfl⟩ : ∃ m : Nat, n = m := ⟨n.toNat, by omega⟩
  have hD : (ds n).data.toList = Lib.decDigits n := rfl
  have hdig : ∀ b ∈ (ds n).data.toList, isD b := dec_dig n
  have hlen : (ds n).size ≤ 10 := by rw [ds_size]; exact dec_len 9 n (by omega)
  have hne : 0 < (ds n).size := by
    rw [ds_size]
    exact List.length_pos_iff.2 (dec_ne n)
  have hval : valF 0 (ds n).data.toList = n := val_dec n
  have main : ∃ k, maquettelaw06_TokenNumbers.l0 k (n : Int) a (ds n) 0 = some true := by
    have hl : (ds n).toList ≠ [] := by
      rw [ByteArray.toList_eq]
      exact dec_ne n
    by_cases h3 : Int.tmod a 4 = 3
    · have hz1 : (⟨#[48]⟩ : ByteArray).size = 1 := rfl
      have hx : ((⟨#[48]⟩ : ByteArray) ++ ds n).data.toList = 48 :: Lib.decDigits n := by rw [ap_data]; rfl
      have hno : ¬ okNum ((⟨#[48]⟩ : ByteArray) ++ ds n).data.toList := by
        rw [hx]
        intro h
        exact h.2.2.2 (by have := List.length_pos_iff.2 (dec_ne n); simp only [List.length_cons]; omega) rfl
      have hsz : ((⟨#[48]⟩ : ByteArray) ++ ds n).size = 1 + (ds n).size := by rw [ByteArray.size_append]; rfl
      rcases cut_dig ((⟨#[48]⟩ : ByteArray) ++ ds n) (by omega) (by
        rw [hx]
        intro b hb
        rcases List.mem_cons.1 hb with rfl | hb
        · exact ⟨by decide, by decide⟩
        · exact dec_dig n b hb) (by omega) with ⟨ho, -⟩ | ⟨-, K, hK⟩
      · exact absurd ho hno
      · refine ⟨K + 3, ?_⟩
        rw [maquettelaw06_TokenNumbers.l0, if_neg (by omega), if_neg hl, if_pos h3, if_pos (by omega), maquettelaw06_TokenNumbers.j1, hK _ (by omega), Option.bind_some]
        simp only
        rw [h3]
        split
        · exact j2_bad _ _ _
        · exact j2_bad _ _ _
    · have h3' : (Int.tmod a 4 == 3) = false := by rw [beq_eq_false_iff_ne]; exact h3
      by_cases h9 : n ≤ 999999
      · have hok : okNum (ds n).data.toList := ⟨dec_ne n, dec_dig n, (ok_len h9).1, (ok_len h9).2⟩
        rcases cut_dig (ds n) (by omega) hdig hne with ⟨-, K, hK⟩ | ⟨ho, -⟩
        · refine ⟨K + 3, ?_⟩
          have hw : wrap64 (n : Int) = (n : Int) := by unfold wrap64; omega
          rw [maquettelaw06_TokenNumbers.l0, if_neg (by omega), if_neg hl, if_neg h3, maquettelaw06_TokenNumbers.j1, hK _ (by omega), Option.bind_some]
          simp only
          rw [if_neg (by omega), h3', maquettelaw06_TokenNumbers.j2, if_neg (by decide)]
          simp [rd_T33, hval, hw]
        · exact absurd hok ho
      · have hno : ¬ okNum (ds n).data.toList := by
          intro h
          have hv := valF_lt (ds n).data.toList 0 hdig
          rw [hval] at hv
          have hp : 10 ^ (ds n).data.toList.length ≤ 10 ^ 6 := Nat.pow_le_pow_right (by omega) h.2.2.1
          have : (10 : Nat) ^ 6 = 1000000 := rfl
          omega
        rcases cut_dig (ds n) (by omega) hdig hne with ⟨ho, -⟩ | ⟨-, K, hK⟩
        · exact absurd ho hno
        · refine ⟨K + 3, ?_⟩
          rw [maquettelaw06_TokenNumbers.l0, if_neg (by omega), if_neg hl, if_neg h3, maquettelaw06_TokenNumbers.j1, hK _ (by omega), Option.bind_some]
          simp only
          rw [if_pos (by omega)]
          exact j2_bad _ _ _
  obtain ⟨k, hk⟩ := num_digits n (by omega) a main
  refine ⟨k + 60, ?_⟩
  have hw : wrap64 (n : Int) = (n : Int) := by unfold wrap64; omega
  unfold maquettelaw06_TokenNumbers.f
  rw [awake_at (by omega), Option.bind_some, if_pos rfl, hw]
  exact leO_up (F := fun k => maquettelaw06_TokenNumbers.l0 k (n : Int) a (⟨#[]⟩ : ByteArray) (n : Int)) (fun k => (maquettelaw06_TokenNumbers.mono_l k).1 _ _ _ _) (by omega : k ≤ k + 60) hk
end Go.Proofs.YthodilggomedgaaDoor.TokF
