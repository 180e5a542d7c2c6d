/- Texts of this work, joined: Below, Api. -/
import Derived.Test.YtnhdfjcecgjlgaaMq
import Derived.Lib.QuietBelow
import Derived.BigQuiet
import Derived.Deep.RegionWith
section
namespace Go.Proofs.Ytnhdfjcecgjlgaa.Mq
open Go.RowKit Go.Sort
set_option linter.unusedVariables false
theorem mem_of_below {W W' : World} (h : Below W.heap.size W W') : Mem W W' [] [] :=
  ⟨⟨⟨h.os, h.tape, h.output, h.size, fun k hk _ => h.block k hk⟩, fun _ h => h.elim⟩, fun _ => False, fun _ => False, fun _ h => h.elim, fun _ h => h.elim, fun _ h => h.elim, fun _ h => h.elim, fun _ h => h.elim, (fun a h => by cases h), trivial⟩
theorem mem_of_regrown {W W' : World} {p : Regrown} (h : W' = grow (redrawn W p.d) p.os) : Mem W W' [] [] := by
  subst h; exact mem_of_below (below_regrown _ _ _)
theorem calls_regrown {P : Program} {f : FuncId} {args : Array Value} {w : World} {d : Nat} {os : Array Obj} {v : Value}
    (h : ∀ W, Calls P f args W fun e W' => e = .returned v ∧ Mem W W' [] []) : Calls P f args (grow (redrawn w d) os) fun e w'' => e = .returned v ∧ ∃ p : Regrown, w'' = grow (redrawn w p.d) p.os :=
  Calls.regrown_of ((h _).mono fun e W' ⟨he, hm⟩ => ⟨he, MemM.below hm⟩)
theorem calls_regrown' {P : Program} {f : FuncId} {args : Array Value} {w : World} {d : Nat} {os : Array Obj} {v : Value}
    (h : ∀ W, Calls P f args W fun e W' => e = .returned v ∧ W = W') : Calls P f args (grow (redrawn w d) os) fun e w'' => e = .returned v ∧ ∃ p : Regrown, w'' = grow (redrawn w p.d) p.os :=
  calls_regrown fun W => (h W).mono fun e W' ⟨he, hm⟩ => ⟨he, by subst hm; exact MemM.start W⟩
end Go.Proofs.Ytnhdfjcecgjlgaa.Mq
end
section
namespace Go.Proofs.Ytnhdfjcecgjlgaa.Mq
open Go.RowKit
set_option linter.unusedVariables false
abbrev Str := List UInt8
structure Pf where
  addr : Int
  bits : Int
  deriving DecidableEq
def Pf.enc (p : Pf) : List Value := [.int .u32 p.addr, .int .i64 p.bits]
def pfR : Rep Pf := flat 2 Pf.enc (fun _ => rfl) (fun x u hu => by simp [Pf.enc] at hu; rcases hu with rfl | rfl <;> rfl)
structure Cl where
  any : Bool
  pre : Pf
  wth : Int
  out : Int
  drop : Bool
  set : Int
  clr : Int
  more : Int
  pref : Int
  deriving DecidableEq
def Cl.enc (c : Cl) : List Value := [.bool c.any, .int .u32 c.pre.addr, .int .i64 c.pre.bits, .int .u8 c.wth, .int .u8 c.out, .bool c.drop, .int .u8 c.set, .int .u8 c.clr, .int .i64 c.more, .int .i64 c.pref]
def clR : Rep Cl := flat 10 Cl.enc (fun _ => rfl) (fun x u hu => by simp [Cl.enc] at hu; rcases hu with rfl | rfl | rfl | rfl | rfl | rfl | rfl | rfl | rfl | rfl <;> rfl)
structure Lk where
  peer : Str
  cost : Int
  imp : Str
  exp : Str
  at_ : Int
  deriving DecidableEq
def Lk.enc (l : Lk) : List Value := [.string (bs l.peer), .int .i64 l.cost, .string (bs l.imp), .string (bs l.exp), .int .i64 l.at_]
def lkR : Rep Lk := flat 5 Lk.enc (fun _ => rfl) (fun x u hu => by simp [Lk.enc] at hu; rcases hu with rfl | rfl | rfl | rfl | rfl <;> rfl)
structure Wy where
  pre : Pf
  via : Str
  at_ : Int
  deriving DecidableEq
def Wy.enc (l : Wy) : List Value := [.int .u32 l.pre.addr, .int .i64 l.pre.bits, .string (bs l.via), .int .i64 l.at_]
def wyR : Rep Wy := flat 4 Wy.enc (fun _ => rfl) (fun x u hu => by simp [Wy.enc] at hu; rcases hu with rfl | rfl | rfl | rfl <;> rfl)
structure Rt where
  name : Str
  nets : List Pf
  links : List Lk
  ways : List Wy
  at_ : Int
def Rt.leaves (r : Rt) : List Leaf := [.val (.string (bs r.name)), .row pfR r.nets, .row lkR r.links, .row wyR r.ways, .val (.int .i64 r.at_)]
def rtR : Rep Rt := strct 5 Rt.leaves (fun _ => rfl) (fun x l hl => by simp [Rt.leaves] at hl; rcases hl with rfl | rfl | rfl | rfl | rfl <;> first | trivial | rfl)
structure Mp where
  name : Str
  clauses : List Cl
  at_ : Int
def Mp.leaves (m : Mp) : List Leaf := [.val (.string (bs m.name)), .row clR m.clauses, .val (.int .i64 m.at_)]
def mpR : Rep Mp := strct 3 Mp.leaves (fun _ => rfl) (fun x l hl => by simp [Mp.leaves] at hl; rcases hl with rfl | rfl | rfl <;> first | trivial | rfl)
structure Ed where
  frm : Int
  cost : Int
  exp : List Cl
  imp : List Cl
def Ed.leaves (e : Ed) : List Leaf := [.val (.int .i64 e.frm), .val (.int .i64 e.cost), .row clR e.exp, .row clR e.imp]
def edR : Rep Ed := strct 4 Ed.leaves (fun _ => rfl) (fun x l hl => by simp [Ed.leaves] at hl; rcases hl with rfl | rfl | rfl | rfl <;> first | trivial | rfl)
structure Cf where
  maps : List Mp
  routers : List Rt
structure Nt where
  origin : List Bool
  static : List Int
  edges : List (List Ed)
section
variable {w : World} {S : Nat → Prop} {A : Option Addr}
theorem Row.flat1 {α : Type} {sz : Nat} {enc : α → List Value} {h1 : ∀ x, (enc x).length = sz} {h2 : ∀ x, ∀ u ∈ enc x, u.oneCell' = true} {xs : List α} (h : Row (flat sz enc h1 h2) w S A xs) {i : Nat} {x : α} (hx : xs[i]? = some x) :
    ∃ ad, A = some ad ∧ ∀ (j : Nat) u, (enc x)[j]? = some u → w.cell? (ad.add (i * sz + j)) = some u := by
  obtain ⟨ad, cs, e, _, hK, hc⟩ := h.at_ hx
  cases hK
  exact ⟨ad, e, hc⟩
theorem Row.mp1 {xs : List Mp} (h : Row mpR w S A xs) {i : Nat} {m : Mp} (hx : xs[i]? = some m) :
    ∃ ad A1 n, A = some ad ∧ (∀ (j : Nat) u, [Value.string (bs m.name), .slice A1 m.clauses.length n, .int .i64 m.at_][j]? = some u → w.cell? (ad.add (i * 3 + j)) = some u) ∧ Row clR w S A1 m.clauses := by
  obtain ⟨ad, cs, e, _, hK, hc⟩ := h.at_ hx
  obtain ⟨_, _, rfl, rfl, _, _, rfl, ⟨A1, n, rfl, h2, h3⟩, _, _, rfl, rfl, rfl⟩ := hK
  exact ⟨ad, A1, n, e, hc, h3⟩
theorem Row.rt1 {xs : List Rt} (h : Row rtR w S A xs) {i : Nat} {r : Rt} (hx : xs[i]? = some r) :
    ∃ ad A1 n1 A2 n2 A3 n3, A = some ad ∧ (∀ (j : Nat) u, [Value.string (bs r.name), .slice A1 r.nets.length n1, .slice A2 r.links.length n2, .slice A3 r.ways.length n3, .int .i64 r.at_][j]? = some u → w.cell? (ad.add (i * 5 + j)) = some u) ∧ Row pfR w S A1 r.nets ∧ Row lkR w S A2 r.links ∧ Row wyR w S A3 r.ways := by
  obtain ⟨ad, cs, e, _, hK, hc⟩ := h.at_ hx
  obtain ⟨_, _, rfl, rfl, _, _, rfl, ⟨A1, n1, rfl, _, h1⟩, _, _, rfl, ⟨A2, n2, rfl, _, h2⟩, _, _, rfl, ⟨A3, n3, rfl, _, h3⟩, _, _, rfl, rfl, rfl⟩ := hK
  exact ⟨ad, A1, n1, A2, n2, A3, n3, e, hc, h1, h2, h3⟩
theorem bs_inj {a b : Str} : bs a = bs b ↔ a = b := by
  constructor
  · intro h
    have := congrArg (fun x => x.data.toList) h
    simpa [bs] using this
  · rintro rfl; rfl
end
end Go.Proofs.Ytnhdfjcecgjlgaa.Mq
end
