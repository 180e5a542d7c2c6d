/- Texts of this work, joined: Bridge, Api. -/
import Derived.Test.YtjcopneljfcfoaaDoorMq
import Derived.Test.YtjcopneljfcfoaaDoorWMore
section
namespace Go.Proofs.YtjcopneljfcfoaaDoor.Bridge
open Go.RowKit Go.Proofs.YtjcopneljfcfoaaDoor.Mq
open Go.Proofs.YtjcopneljfcfoaaDoorW.PrintWords (Kd)
set_option linter.unusedVariables false
section
variable {α β : Type} {d : Kd α} {r : Rep β} {w w0 W : World} {A : Option Addr} {n : Nat} {xs : List α} {ys : List β} {S F : Nat → Prop} {v : Value} {e : Nat} {l R : List Asr}
end
section
variable {w : World} {A : Option Addr} {S : Nat → Prop}
end
end Go.Proofs.YtjcopneljfcfoaaDoor.Bridge
end
section
namespace Go.Proofs.YtjcopneljfcfoaaDoor.Mq
open Go.RowKit
set_option linter.unusedVariables false
abbrev Str := List UInt8
/-- A prefix. -/
structure Pf where
  addr : Int
  bits : Int
  deriving DecidableEq
def Pf.enc (p : Pf) : List Value := [.int .u32 p.addr, .int .i64 p.bits]
def pfR : Rep Pf := flat 2 Pf.enc (fun _ => rfl) (fun x u hu => by simp [Pf.enc] at hu; rcases hu with rfl | rfl <;> rfl)
/-- A clause. -/
structure Cl where
  any : Bool
  pre : Pf
  wth : Int
  out : Int
  drop : Bool
  set : Int
  clr : Int
  more : Int
  pref : Int
  deriving DecidableEq
def Cl.enc (c : Cl) : List Value := [.bool c.any, .int .u32 c.pre.addr, .int .i64 c.pre.bits, .int .u8 c.wth, .int .u8 c.out, .bool c.drop, .int .u8 c.set, .int .u8 c.clr, .int .i64 c.more, .int .i64 c.pref]
def clR : Rep Cl := flat 10 Cl.enc (fun _ => rfl) (fun x u hu => by simp [Cl.enc] at hu; rcases hu with rfl | rfl | rfl | rfl | rfl | rfl | rfl | rfl | rfl | rfl <;> rfl)
/-- A link. -/
structure Lk where
  peer : Str
  cost : Int
  imp : Str
  exp : Str
  at_ : Int
  deriving DecidableEq
def Lk.enc (l : Lk) : List Value := [.string (bs l.peer), .int .i64 l.cost, .string (bs l.imp), .string (bs l.exp), .int .i64 l.at_]
def lkR : Rep Lk := flat 5 Lk.enc (fun _ => rfl) (fun x u hu => by simp [Lk.enc] at hu; rcases hu with rfl | rfl | rfl | rfl | rfl <;> rfl)
/-- A way. -/
structure Wy where
  pre : Pf
  via : Str
  at_ : Int
  deriving DecidableEq
def Wy.enc (l : Wy) : List Value := [.int .u32 l.pre.addr, .int .i64 l.pre.bits, .string (bs l.via), .int .i64 l.at_]
def wyR : Rep Wy := flat 4 Wy.enc (fun _ => rfl) (fun x u hu => by simp [Wy.enc] at hu; rcases hu with rfl | rfl | rfl | rfl <;> rfl)
/-- A router. -/
structure Rt where
  name : Str
  nets : List Pf
  links : List Lk
  ways : List Wy
  at_ : Int
def Rt.leaves (r : Rt) : List Leaf := [.val (.string (bs r.name)), .row pfR r.nets, .row lkR r.links, .row wyR r.ways, .val (.int .i64 r.at_)]
/-- A map. -/
structure Mp where
  name : Str
  clauses : List Cl
  at_ : Int
def Mp.leaves (m : Mp) : List Leaf := [.val (.string (bs m.name)), .row clR m.clauses, .val (.int .i64 m.at_)]
/-- An edge. -/
structure Ed where
  frm : Int
  cost : Int
  exp : List Cl
  imp : List Cl
def Ed.leaves (e : Ed) : List Leaf := [.val (.int .i64 e.frm), .val (.int .i64 e.cost), .row clR e.exp, .row clR e.imp]
/-- A configuration; a network. -/
structure Cf where
  maps : List Mp
  routers : List Rt
structure Nt where
  origin : List Bool
  static : List Int
  edges : List (List Ed)

section
variable {w : World} {S : Nat → Prop} {A : Option Addr}
end
end Go.Proofs.YtjcopneljfcfoaaDoor.Mq
end
