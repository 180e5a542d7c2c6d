/- Texts of this work, joined: Bridge, Api, Box, Bld. -/
import Derived.Test.YtjcopneljfcfoaaDoorMq
import Derived.Test.YtjcopneljfcfoaaDoorWMore
import Derived.Deep.MidRow
import Derived.Test.YtjcopneljfcfoaaDoorShelf
import Derived.Test.YtjcopneljfcfoaaDoorJ0
section
namespace Go.Proofs.YtjcopneljfcfoaaDoor.Bridge
open Go.RowKit Go.Proofs.YtjcopneljfcfoaaDoor.Mq
open Go.Proofs.YtjcopneljfcfoaaDoorW.PrintWords (Kd)
set_option linter.unusedVariables false
section
variable {α β : Type} {d : Kd α} {r : Rep β} {w w0 W : World} {A : Option Addr} {n : Nat} {xs : List α} {ys : List β} {S F : Nat → Prop} {v : Value} {e : Nat} {l R : List Asr}
end
section
variable {w : World} {A : Option Addr} {S : Nat → Prop}
end
end Go.Proofs.YtjcopneljfcfoaaDoor.Bridge
end
section
namespace Go.Proofs.YtjcopneljfcfoaaDoor.Mq
open Go.RowKit
set_option linter.unusedVariables false
abbrev Str := List UInt8
/-- A prefix. -/
structure Pf where
  addr : Int
  bits : Int
  deriving DecidableEq
def Pf.enc (p : Pf) : List Value := [.int .u32 p.addr, .int .i64 p.bits]
def pfR : Rep Pf := flat 2 Pf.enc (fun _ => rfl) (fun x u hu => by simp [Pf.enc] at hu; rcases hu with rfl | rfl <;> rfl)
/-- A clause. -/
structure Cl where
  any : Bool
  pre : Pf
  wth : Int
  out : Int
  drop : Bool
  set : Int
  clr : Int
  more : Int
  pref : Int
  deriving DecidableEq
def Cl.enc (c : Cl) : List Value := [.bool c.any, .int .u32 c.pre.addr, .int .i64 c.pre.bits, .int .u8 c.wth, .int .u8 c.out, .bool c.drop, .int .u8 c.set, .int .u8 c.clr, .int .i64 c.more, .int .i64 c.pref]
def clR : Rep Cl := flat 10 Cl.enc (fun _ => rfl) (fun x u hu => by simp [Cl.enc] at hu; rcases hu with rfl | rfl | rfl | rfl | rfl | rfl | rfl | rfl | rfl | rfl <;> rfl)
/-- A link. -/
structure Lk where
  peer : Str
  cost : Int
  imp : Str
  exp : Str
  at_ : Int
  deriving DecidableEq
def Lk.enc (l : Lk) : List Value := [.string (bs l.peer), .int .i64 l.cost, .string (bs l.imp), .string (bs l.exp), .int .i64 l.at_]
def lkR : Rep Lk := flat 5 Lk.enc (fun _ => rfl) (fun x u hu => by simp [Lk.enc] at hu; rcases hu with rfl | rfl | rfl | rfl | rfl <;> rfl)
/-- A way. -/
structure Wy where
  pre : Pf
  via : Str
  at_ : Int
  deriving DecidableEq
def Wy.enc (l : Wy) : List Value := [.int .u32 l.pre.addr, .int .i64 l.pre.bits, .string (bs l.via), .int .i64 l.at_]
def wyR : Rep Wy := flat 4 Wy.enc (fun _ => rfl) (fun x u hu => by simp [Wy.enc] at hu; rcases hu with rfl | rfl | rfl | rfl <;> rfl)
/-- A router. -/
structure Rt where
  name : Str
  nets : List Pf
  links : List Lk
  ways : List Wy
  at_ : Int
def Rt.leaves (r : Rt) : List Leaf := [.val (.string (bs r.name)), .row pfR r.nets, .row lkR r.links, .row wyR r.ways, .val (.int .i64 r.at_)]
/-- A map. -/
structure Mp where
  name : Str
  clauses : List Cl
  at_ : Int
def Mp.leaves (m : Mp) : List Leaf := [.val (.string (bs m.name)), .row clR m.clauses, .val (.int .i64 m.at_)]
/-- An edge. -/
structure Ed where
  frm : Int
  cost : Int
  exp : List Cl
  imp : List Cl
def Ed.leaves (e : Ed) : List Leaf := [.val (.int .i64 e.frm), .val (.int .i64 e.cost), .row clR e.exp, .row clR e.imp]
/-- A configuration; a network. -/
structure Cf where
  maps : List Mp
  routers : List Rt
structure Nt where
  origin : List Bool
  static : List Int
  edges : List (List Ed)

section
variable {w : World} {S : Nat → Prop} {A : Option Addr}
end
end Go.Proofs.YtjcopneljfcfoaaDoor.Mq
end
section
namespace Go.Proofs.YtjcopneljfcfoaaDoor.Mq
open Go.RowKit
set_option linter.unusedVariables false
set_option linter.unusedSimpArgs false
section
variable {P : Program} {ops : Array Oper} {rest : List Oper} {o : Oper} {a : Act} {Q : Exit → Act → World → Prop} {M Z : Nat → Prop} {w0 W : World} {R l : List Asr}
/-- A record is read out of a row. -/
theorem wp_ldcells {ad : Addr} {n : Nat} (cs : List Value) (hc : ∀ (j : Nat) u, cs[j]? = some u → W.cell? (ad.add (n + j)) = some u) (hgd : o.guard = none) (t : TypeId) (p : Operand) (ho : o.op = .load t p) (hp : a.eval p = .pointer (some (ad.add n)))
    (d : TypeDesc) (hu : P.underlying t = some d) (hd : d.isRow = true) (hi : (P.info? t).map (·.size) = some cs.length)
    (h : wpList P ops Q rest (a.put o.dst (.agg cs.toArray)) W) : wpList P ops Q (o :: rest) a W := by
  refine wpList_plain hgd fun K hK => ?_
  have hl : (loadCells (ad.add n) cs.length).run P W = .ok cs.toArray W :=
    run_loadCells_list (P := P) W (ad.add n) cs (fun j v hv => by rw [add_add]; exact hc j v hv)
  cases hq : P.info? t with
  | none => simp [hq] at hi
  | some i =>
    have hs : i.size = cs.length := by simpa [hq] using hi
    have hagg : (isAgg t).run P W = .ok true W := by
      unfold isAgg
      rw [Sem.run_bind, run_underlying hu W]
      cases d <;> simp_all
    unfold Oper.wp execOp
    simp only [ho, hp, Instr.loadAt, Instr.sureAddr, Sem.run_bind, Sem.run_pure, Result.andThen_ok, loadVar, hagg, sizeOf, typeInfo, hq, hs, hl, if_true]
    simp [Sem.run_bind, typeInfo, hq, hs, hl, Result.andThen]
    exact hK _ _ h
theorem wp_alloc (H : MemM M Z w0 W R l) (hgd : o.guard = none) (t : TypeId) (ho : o.op = .alloc t) (z : Value) (hz : (P.info? t).map (·.zero) = some (some z)) (cs : List Value) (hcs : z.cells.toList = cs)
    (h : ∀ g W1, MemM M Z w0 W1 R (box g t cs :: l) → wpList P ops Q rest (a.put o.dst (.pointer (some ⟨g, 0, none⟩))) W1) : wpList P ops Q (o :: rest) a W := by
  refine wpList_plain hgd fun K hK => ?_
  subst hcs
  cases hq : P.info? t with
  | none => simp [hq] at hz
  | some i =>
    have hz' : i.zero = some z := by simpa [hq] using hz
    unfold Oper.wp execOp
    simp [ho, Instr.alloc, zeroValue, typeInfo, hq, hz', newVar, newRow, Result.andThen]
    exact hK _ _ (h _ _ (by simpa using H.box t z.cells.toList))
theorem wp_stbox {g t0 : Nat} {cs : List Value} (H : MemM M Z w0 W R (box g t0 cs :: l)) (hgd : o.guard = none) (t : TypeId) (p x : Operand) (ho : o.op = .store t p x) (j : Nat) (hp : a.eval p = .pointer (some ⟨g, j, none⟩)) (v : Value) (hv : a.eval x = v)
    (xs : List Value) (hxs : v.cells.toList = xs) (hi : (P.info? t).map (·.size) = some xs.length) (h1 : xs.all (fun u => u.oneCell') = true) (hj : j + xs.length ≤ cs.length) (cs' : List Value) (hcs : cs.take j ++ xs ++ cs.drop (j + xs.length) = cs')
    (h : ∀ W1, MemM M Z w0 W1 R (box g t0 cs' :: l) → wpList P ops Q rest (a.put o.dst undef) W1) : wpList P ops Q (o :: rest) a W := by
  refine wpList_plain hgd fun K hK => ?_
  obtain ⟨F, S, ⟨hS, hg⟩, h2, h3, h4, h5, h6⟩ := H.open1
  have hlen : v.cells.size = xs.length := by rw [← hxs]; simp
  have hst := run_storeCells_at P g j t0 xs 0 cs.toArray W hg (by simpa using hj) (List.all_eq_true.1 h1)
  simp only [Nat.add_zero] at hst
  cases hq : P.info? t with
  | none => simp [hq] at hi
  | some i =>
    have hs : i.size = xs.length := by simpa [hq] using hi
    have hrun : (Instr.storeAt t (.pointer (some ⟨g, j, none⟩)) v).run P W = .ok () (W.setRow g (cs.take j ++ xs ++ cs.drop (j + xs.length)).toArray) := by
      simp [Instr.storeAt, Instr.sureAddr, storeVar, sizeOf, typeInfo, hq, hs, hlen, hxs, Result.andThen]
      simpa using hst
    unfold Oper.wp execOp
    simp [ho, hp, hv, hrun, Result.andThen]
    refine hK _ _ (h _ (h6 _ (box g t0 cs') (some g) ⟨rfl, rfl, rfl, by simp, fun k _ hk => setRow_other W g k _ (fun e => hk (by rw [e]))⟩ (fun k e => by cases e; exact hS) ⟨.inl hS, ?_⟩))
    have := setRow_heap W g cs.toArray (cs.take j ++ xs ++ cs.drop (j + xs.length)).toArray t0 (0, 0) hg
    rw [← hcs]
    simpa using this
/-- A record is read out of a variable. -/
theorem wp_ldbox {g t0 : Nat} {cs : List Value} (hm : box g t0 cs ∈ l) (H : MemM M Z w0 W R l) (hgd : o.guard = none) (t : TypeId) (p : Operand) (ho : o.op = .load t p) (j n : Nat) (hp : a.eval p = .pointer (some ⟨g, j, none⟩))
    (d : TypeDesc) (hu : P.underlying t = some d) (hd : d.isRow = true) (xs : List Value) (hxs : (cs.drop j).take n = xs) (hi : (P.info? t).map (·.size) = some xs.length)
    (h : wpList P ops Q rest (a.put o.dst (.agg xs.toArray)) W) : wpList P ops Q (o :: rest) a W := by
  refine wpList_load_mid hgd t p ho g j hp xs d (fun i v hv => ?_) hu hd hi h
  subst hxs
  rw [List.getElem?_take] at hv
  split at hv
  · rw [List.getElem?_drop] at hv
    exact (H.boxcell hm _ _ hv).1
  · cases hv
end
end Go.Proofs.YtjcopneljfcfoaaDoor.Mq
end
section
namespace Go.Proofs.YtjcopneljfcfoaaDoor.Bld
open Go.RowKit Go.Proofs.YtjcopneljfcfoaaDoor.Inv
set_option linter.unusedVariables false
abbrev IsB (B b : Nat) (l : List UInt8) (w : World) : Prop := Lib.IsBuilderF 63 5 B b (Lib.byteCells l) w
theorem write_calls (B b : Nat) (l : List UInt8) (s : ByteArray) (w : World) (h : IsB B b l w) (hlen : l.length + s.size ≤ 140737488355328) (hB : B ≤ w.heap.size) :
    Calls Tryd.prog 19 #[.pointer (some ⟨b, 0, none⟩), .string s] w fun e w' => e = .returned (.tuple #[.int .i64 s.size, .nilIface]) ∧ IsB B b (l ++ s.data.toList) w' ∧ Below B w w' ∧ Lib.OthersKept 5 (some b) w w' := by
  refine (Any.Builder_WriteString_k { Tryd.lays156 with } Tryd.Builder_Extra_156 B b (Lib.byteCells l) s w h (by rw [Lib.byteCells_length]; exact hlen) hB).mono fun e w' ⟨he, hb, h1, h2⟩ => ⟨he, ?_, h1, h2⟩
  unfold IsB
  rw [Lib.byteCells_append]
  exact Or.inr hb
theorem string_calls (B b : Nat) (l : List UInt8) (w : World) (h : IsB B b l w) (hB : B ≤ w.heap.size) :
    Calls Tryd.prog 21 #[.pointer (some ⟨b, 0, none⟩)] w fun e w' => e = .returned (.string ⟨l.toArray⟩) ∧ Below B w w' :=
  (Any.Builder_String_any_k { Tryd.lays156 with } Tryd.Builder_Extra_156 B b l w h hB).mono fun e w' ⟨he, _, h1, _⟩ => ⟨he, h1⟩
theorem IsB.below {B b : Nat} {l : List UInt8} {w w' : World} (h : IsB B b l w) (hb : Below w.heap.size w w') : IsB B b l w' := by
  have key : ∀ p, Lib.BuilderAtF 63 5 B b p (Lib.byteCells l) w → Lib.BuilderAtF 63 5 B b p (Lib.byteCells l) w' := by
    rintro p ⟨h1, v, h2, ⟨h3, h4⟩, h5⟩
    have old : ∀ k o, w.heap[k]? = some o → w'.heap[k]? = some o := fun k o hk => by
      rw [hb.block k (Array.getElem?_eq_some_iff.1 hk).1]
      exact hk
    refine ⟨h1, v, old _ _ h2, ⟨h3, ?_⟩, h5⟩
    rcases h4 with h4 | ⟨g, cap, cur, fz, e1, e2, e3, e4⟩
    · exact Or.inl h4
    · exact Or.inr ⟨g, cap, cur, fz, e1, e2, old _ _ e3, e4⟩
  rcases h with h | h
  · exact Or.inl (key _ h)
  · exact Or.inr (key _ h)
open Go.Proofs.YtjcopneljfcfoaaDoor.Mq
theorem box_at {w0 W : World} {g t : Nat} {cs : List Value} {l : List Asr} (H : Mem w0 W [] (box g t cs :: l)) : W.heap[g]? = some (.cells cs.toArray t (0, 0)) ∧ w0.heap.size ≤ g := by
  obtain ⟨F, S, ⟨hS, hg⟩, _, _, h4, _⟩ := H.open1
  refine ⟨hg, ?_⟩
  rcases (h4 g hS).1 with h | h
  · exact h.elim
  · exact h
/-- A box stands behind what is written to a builder. -/
theorem box_kept {W W3 : World} {g t b : Nat} {cs : List Value} (h : W.heap[g]? = some (.cells cs.toArray t (0, 0))) (hk : Lib.OthersKept 5 (some b) W W3) (hb : b < g) (ht : t ≠ 5) : W3.heap[g]? = some (.cells cs.toArray t (0, 0)) :=
  hk g _ h (fun e => by injection e with e; omega) (fun c fz e => by injection e with _ e _; exact ht e)
theorem box_cell {W : World} {g t j : Nat} {cs : List Value} {u : Value} (h : W.heap[g]? = some (.cells cs.toArray t (0, 0))) (hj : cs[j]? = some u) : W.cell? ⟨g, j, none⟩ = some u := by
  unfold World.cell?
  simp [h, hj]
end Go.Proofs.YtjcopneljfcfoaaDoor.Bld
end
