/- Plain law: tokens laid with blanks between are cut into the same. -/
import Derived.Test.YthodilggomedgaaDoorBkC
namespace Go.Proofs.YthodilggomedgaaDoor.BkB
open Go.RowKit Go.Proofs.YthodilggomedgaaDoor.PTb Go.Proofs.YthodilggomedgaaDoorW.PrintWords Go.Proofs.YthodilggomedgaaDoorW.PrintLast Go.Proofs.YthodilggomedgaaDoorW.PrintMore Go.Proofs.YthodilggomedgaaDoor.Dec Go.Proofs.YthodilggomedgaaDoor.BkM Go.Proofs.YthodilggomedgaaDoor.BkP Go.Proofs.YthodilggomedgaaDoor.BkC
set_option linter.unusedVariables false
set_option linter.unusedSimpArgs false
set_option linter.all false
/-- What a token is, but for its place. -/
def Good (t : S33) : Prop := (∃ c : UInt8, sn ((c.toNat : Nat) : Int) ∧ t.f0 = 4 ∧ t.f1.data.toList = [c] ∧ t.f2 = 0 ∧ t.f3 = ⟨0, 0⟩) ∨
  (∃ r : Pc, (∀ k, t.f1.size + 10 ≤ k → token_piece.f k t.f1 = some r) ∧ r.2.2.2.2.2.2 = true ∧ r.2.1 = t.f1 ∧ t.f0 = r.1 ∧ t.f2 = r.2.2.1 ∧ t.f3 = ⟨r.2.2.2.1, r.2.2.2.2.1⟩ ∧ 0 < t.f1.size ∧ ∀ b ∈ t.f1.data.toList, pt ((b.toNat : Nat) : Int) = true)
theorem ext_l (x : ByteArray) (i j : Nat) : (x.extract i j).data.toList = (x.data.toList.drop i).take (j - i) := by
  rw [ByteArray.data_extract, Array.toList_extract]
def total : List S33 → Nat
  | [] => 0
  | t :: ts => t.f1.size + total ts
theorem cut_good (x : ByteArray) (hx : x.size ≤ 65536) : ∀ d p (a : List S33), p + d = x.size → a.length ≤ p →
    (∃ ts : List S33, ts.length + p ≤ x.size ∧ total ts + p ≤ x.size ∧ (∀ t ∈ ts, Good t) ∧ Y x a p (a ++ (ts ++ [eof x]), none)) ∨ (∃ q : Nat, Y x a p ([], some ((q : Int) * 16 + 1))) := by
  intro d
  induction d using Nat.strongRecOn with
  | _ d ih =>
  intro p a hd hap
  have ha : a.length ≤ 65536 := by omega
  by_cases h0 : x.size ≤ p
  · exact Or.inl ⟨[], (by simp; omega), (by simp [total]; omega), (fun _ h => by simp at h), Y.eof hx ha h0⟩
  have hp : p < x.size := by omega
  obtain ⟨c, hXc, -⟩ := drop_at (l := x.data.toList) (i := p) (by rw [lsz]; exact hp)
  have hbc := bt_at hXc
  by_cases hb : bl (bt x p)
  · rcases ih (d - 1) (by omega) (p + 1) a (by omega) (by omega) with ⟨ts, h1, h2, h3, h4⟩ | ⟨q, h1⟩
    · exact Or.inl ⟨ts, by omega, by omega, h3, Y.blank hx ha hp hb h4⟩
    · exact Or.inr ⟨q, Y.blank hx ha hp hb h1⟩
  by_cases hc : bt x p = 35
  · obtain ⟨q, q1, q2, q3, q4⟩ := BkC.scan (fun i => bt x (i : Int) ≠ 10) x.size (x.size - (p + 1)) (p + 1) (by omega)
    have q4' : q = x.size ∨ bt x q = 10 := by
      rcases q4 with e | e
      · exact Or.inl e
      · exact Or.inr (Decidable.not_not.1 e)
    rcases ih (x.size - q) (by omega) q a (by omega) (by omega) with ⟨ts, h1, h2, h3, h4⟩ | ⟨r, h1⟩
    · exact Or.inl ⟨ts, by omega, by omega, h3, Y.note hx ha hp hc (by omega) q2 q3 q4' h4⟩
    · exact Or.inr ⟨r, Y.note hx ha hp hc (by omega) q2 q3 q4' h1⟩
  by_cases hs : sn (bt x p)
  · rcases ih (d - 1) (by omega) (p + 1) (a ++ [sg x p]) (by omega) (by simp; omega) with ⟨ts, h1, h2, h3, h4⟩ | ⟨q, h1⟩
    · have hz : (sg x p).f1.size = 1 := by
        show (x.extract p (p + 1)).size = 1
        rw [ext_size (by omega)]; omega
      refine Or.inl ⟨sg x p :: ts, by simp only [List.length_cons]; omega, by simp only [total]; omega, ?_, ?_⟩
      · intro t ht
        rcases List.mem_cons.1 ht with rfl | ht
        · refine Or.inl ⟨c, by rw [← hbc]; exact hs, rfl, ?_, rfl, rfl⟩
          show (x.extract p (p + 1)).data.toList = [c]
          rw [ext_l, show p + 1 - p = 1 by omega]
          obtain ⟨c', h', hd'⟩ := drop_at (l := x.data.toList) (i := p) (by rw [lsz]; exact hp)
          rw [hXc] at h'
          cases h'
          rw [hd']
          rfl
        · exact h3 t ht
      · have := Y.sign hx ha hp hs h4
        rwa [List.append_assoc] at this
    · exact Or.inr ⟨q, Y.sign hx ha hp hs h1⟩
  obtain ⟨q, q1, q2, q3, q4⟩ := BkC.scan (fun i => pt (bt x (i : Int)) = true) x.size (x.size - p) p (by omega)
  have q4' : q = x.size ∨ pt (bt x q) = false := by
    rcases q4 with e | e
    · exact Or.inl e
    · exact Or.inr (by simpa using e)
  have hz := ext_size (x := x) (i := p) q2
  obtain ⟨r, r1, r2, r3, r4⟩ := piece_eq (x.extract p q) (by omega)
  cases hf : r.2.2.2.2.2.2 with
  | false => exact Or.inr ⟨p, Y.bad hx ha hp hb hs hc q2 q1 q3 q4' ⟨_, r1⟩ hf⟩
  | true =>
    have hpq : p < q := by
      rcases Nat.lt_or_ge p q with h | h
      · exact h
      · have := r3 (by omega)
        rw [hf] at this
        cases this
    rcases ih (x.size - q) (by omega) q (a ++ [wd r p]) (by omega) (by simp; omega) with ⟨ts, h1, h2, h3, h4⟩ | ⟨w, h1⟩
    · have hz1 : (wd r p).f1 = x.extract p q := r4 hf
      refine Or.inl ⟨wd r p :: ts, by simp only [List.length_cons]; omega, by simp only [total]; rw [hz1, hz]; omega, ?_, ?_⟩
      · intro t ht
        rcases List.mem_cons.1 ht with rfl | ht
        · refine Or.inr ⟨r, by rw [hz1]; exact r1, hf, rfl, rfl, rfl, rfl, by rw [hz1, hz]; omega, ?_⟩
          rw [hz1, ext_l]
          intro b hb'
          obtain ⟨i, hi⟩ := List.mem_iff_getElem?.1 hb'
          rw [List.getElem?_take] at hi
          split at hi
          · rename_i hlt
            rw [List.getElem?_drop] at hi
            have := q3 (p + i) (by omega) (by omega)
            rw [bt_at hi] at this
            exact this
          · cases hi
        · exact h3 t ht
      · have := Y.word hx ha hp hb hs hc q2 q1 q3 q4' ⟨_, r1⟩ hf h4
        rwa [List.append_assoc] at this
    · exact Or.inr ⟨w, Y.word hx ha hp hb hs hc q2 q1 q3 q4' ⟨_, r1⟩ hf h1⟩
/-- Tokens with a blank behind each, and one behind the end. -/
def jl : List S33 → List UInt8
  | [] => [32]
  | t :: ts => t.f1.data.toList ++ 32 :: jl ts
/-- The same tokens, but for places. -/
def Sm : List S33 → List S33 → Prop
  | [], [] => True
  | u :: us, t :: ts => (u.f0 = t.f0 ∧ u.f1 = t.f1 ∧ u.f2 = t.f2 ∧ u.f3 = t.f3) ∧ Sm us ts
  | _, _ => False
theorem pt_no {c : Int} (h : pt c = true) : ¬ bl c ∧ ¬ sn c ∧ c ≠ 35 := by
  unfold pt lt dg at h
  simp only [Bool.or_eq_true, decide_eq_true_eq, beq_iff_eq] at h
  unfold bl sn
  omega
theorem toL_inj {a b : ByteArray} (h : a.data.toList = b.data.toList) : a = b := ByteArray.ext (Array.toList_inj.1 h)
theorem back (x : ByteArray) (hx : x.size ≤ 65536) : ∀ (ts : List S33) (p : Nat) (a : List S33), (∀ t ∈ ts, Good t) → x.data.toList.drop p = jl ts → a.length ≤ p → ∃ us, Sm us ts ∧ Y x a p (a ++ (us ++ [eof x]), none) := by
  have hget : ∀ (p : Nat) (M : List UInt8) (i : Nat), x.data.toList.drop p = M → x.data.toList[p + i]? = M[i]? := by
    intro p M i h
    rw [← h, List.getElem?_drop]
  have hlt : ∀ (j : Nat) (b : UInt8), x.data.toList[j]? = some b → j < x.size := by
    intro j b h
    have := (List.getElem?_eq_some_iff.1 h).1
    rwa [lsz] at this
  intro ts
  induction ts with
  | nil =>
    intro p a _ hd ha
    have h0 := hget p _ 0 hd
    have h0' : x.data.toList[p]? = some 32 := h0
    have hp := hlt _ _ h0'
    have hend : x.size ≤ p + 1 := by
      have := congrArg List.length hd
      rw [List.length_drop, lsz] at this
      simp [jl] at this
      omega
    exact ⟨[], trivial, Y.blank hx (by omega) hp (Or.inl (by rw [bt_at h0']; rfl)) (Y.eof hx (by omega) hend)⟩
  | cons t ts ih =>
    intro p a hg hd ha
    have hgt := hg t (.head _)
    have hgs : ∀ t ∈ ts, Good t := fun t h => hg t (.tail _ h)
    have hn : (t.f1.data.toList).length = t.f1.size := lsz _
    -- behind the token: a blank, and the rest
    have hbl : x.data.toList[p + t.f1.size]? = some 32 := by
      rw [hget p _ t.f1.size hd]
      show (t.f1.data.toList ++ 32 :: jl ts)[t.f1.size]? = some 32
      rw [List.getElem?_append_right (by omega), hn, Nat.sub_self]
      rfl
    have hrest : x.data.toList.drop (p + t.f1.size + 1) = jl ts := by
      rw [Nat.add_assoc, ← List.drop_drop, hd]
      show (t.f1.data.toList ++ 32 :: jl ts).drop (t.f1.size + 1) = jl ts
      rw [List.drop_append, hn, List.drop_eq_nil_of_le (by omega), show t.f1.size + 1 - t.f1.size = 1 by omega]
      rfl
    have hq := hlt _ _ hbl
    have hqb : bl (bt x ((p + t.f1.size : Nat) : Int)) := Or.inl (by rw [bt_at hbl]; rfl)
    have hext : x.extract p (p + t.f1.size) = t.f1 := by
      apply toL_inj
      rw [ext_l, hd, show p + t.f1.size - p = t.f1.size by omega]
      show (t.f1.data.toList ++ 32 :: jl ts).take t.f1.size = _
      rw [List.take_append_of_le_length (by omega), ← hn, List.take_length]
    rcases hgt with ⟨c, hc, g0, g1, g2, g3⟩ | ⟨r, r1, r2, r3, g0, g2, g3, g4, g5⟩
    · have hz : t.f1.size = 1 := by rw [← hn, g1]; rfl
      have h0 : x.data.toList[p]? = some c := by
        have := hget p _ 0 hd
        rw [Nat.add_zero] at this
        rw [this]
        show (t.f1.data.toList ++ 32 :: jl ts)[0]? = some c
        rw [g1]
        rfl
      have hp := hlt _ _ h0
      rw [hz] at hrest hq hqb hext
      obtain ⟨us, u1, u2⟩ := ih (p + 1 + 1) (a ++ [sg x p]) hgs hrest (by simp; omega)
      refine ⟨sg x p :: us, ⟨⟨g0.symm, hext, g2.symm, g3.symm⟩, u1⟩, ?_⟩
      have := Y.sign hx (by omega) hp (by rw [bt_at h0]; exact hc) (Y.blank hx (by simp; omega) hq hqb u2)
      rwa [List.append_assoc] at this
    · have hall : ∀ j, p ≤ j → j < p + t.f1.size → pt (bt x (j : Int)) = true := by
        intro j h1 h2
        have hj := hget p _ (j - p) hd
        rw [show p + (j - p) = j by omega] at hj
        have e : (jl (t :: ts))[j - p]? = t.f1.data.toList[j - p]? := by
          show (t.f1.data.toList ++ 32 :: jl ts)[j - p]? = _
          rw [List.getElem?_append_left (by omega)]
        rw [e] at hj
        obtain ⟨b, hb⟩ : ∃ b, t.f1.data.toList[j - p]? = some b := ⟨_, List.getElem?_eq_getElem (by omega)⟩
        rw [hb] at hj
        rw [bt_at hj]
        exact g5 b (List.mem_of_getElem? hb)
      obtain ⟨n1, n2, n3⟩ := pt_no (hall p (Nat.le_refl _) (by omega))
      obtain ⟨us, u1, u2⟩ := ih (p + t.f1.size + 1) (a ++ [wd r p]) hgs hrest (by simp; omega)
      refine ⟨wd r p :: us, ⟨⟨g0.symm, r3, g2.symm, g3.symm⟩, u1⟩, ?_⟩
      have hpt : pt (bt x ((p + t.f1.size : Nat) : Int)) = false := by rw [bt_at hbl]; rfl
      have := Y.word hx (by omega) (by omega) n1 n2 n3 (by omega) (by omega) hall (Or.inr hpt) (by rw [hext]; exact ⟨_, r1⟩) r2 (Y.blank hx (by simp; omega) hq hqb u2)
      rwa [List.append_assoc] at this
end Go.Proofs.YthodilggomedgaaDoor.BkB
