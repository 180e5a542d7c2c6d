import Derived.Test.YtnhdfjcecgjlgaaJ1
import Derived.Test.YtnhdfjcecgjlgaaPNtx0
namespace Go.Proofs.Ytnhdfjcecgjlgaa.PNt
open Go.RowKit Go.Proofs.YtnhdfjcecgjlgaaW.PrintWords Go.Proofs.YtnhdfjcecgjlgaaW.PrintLast Go.Proofs.YtnhdfjcecgjlgaaW.PrintMore
attribute [local go_sem] max2_int min2_int max_two min_two max_three min_three max_four min_four
set_option linter.unusedVariables false
set_option linter.unusedSimpArgs false
def toCl (x : S81) : Go.Proofs.Ytnhdfjcecgjlgaa.Mq.Cl := ⟨x.f0, ⟨x.f1.f0, x.f1.f1⟩, x.f2, x.f3, x.f4, x.f5, x.f6, x.f7, x.f8⟩
theorem K_toCl {w : World} {S : Nat → Prop} (x : S81) (cs : List Value) (h : k81.K w x cs) : Go.Proofs.Ytnhdfjcecgjlgaa.Mq.clR.K w S (toCl x) cs := by have h_ := k81_open h; subst h_; rfl
theorem bs_data (x : ByteArray) : Go.Proofs.Ytnhdfjcecgjlgaa.Mq.bs x.data.toList = x := by cases x; rfl
def toPf (x : S36) : Go.Proofs.Ytnhdfjcecgjlgaa.Mq.Pf := ⟨x.f0, x.f1⟩
theorem K_toPf {w : World} {S : Nat → Prop} (x : S36) (cs : List Value) (h : k36.K w x cs) : Go.Proofs.Ytnhdfjcecgjlgaa.Mq.pfR.K w S (toPf x) cs := by have h_ := k36_open h; subst h_; rfl
def toLk (x : S47) : Go.Proofs.Ytnhdfjcecgjlgaa.Mq.Lk := ⟨x.f0.data.toList, x.f1, x.f2.data.toList, x.f3.data.toList, x.f4⟩
theorem K_toLk {w : World} {S : Nat → Prop} (x : S47) (cs : List Value) (h : k47.K w x cs) : Go.Proofs.Ytnhdfjcecgjlgaa.Mq.lkR.K w S (toLk x) cs := by
  have h_ := k47_open h; subst h_; show _ = Go.Proofs.Ytnhdfjcecgjlgaa.Mq.Lk.enc (toLk x); simp only [Go.Proofs.Ytnhdfjcecgjlgaa.Mq.Lk.enc, toLk, bs_data]
def toWy (x : S63) : Go.Proofs.Ytnhdfjcecgjlgaa.Mq.Wy := ⟨⟨x.f0.f0, x.f0.f1⟩, x.f1.data.toList, x.f2⟩
theorem K_toWy {w : World} {S : Nat → Prop} (x : S63) (cs : List Value) (h : k63.K w x cs) : Go.Proofs.Ytnhdfjcecgjlgaa.Mq.wyR.K w S (toWy x) cs := by
  have h_ := k63_open h; subst h_; show _ = Go.Proofs.Ytnhdfjcecgjlgaa.Mq.Wy.enc (toWy x); simp only [Go.Proofs.Ytnhdfjcecgjlgaa.Mq.Wy.enc, toWy, bs_data]
def toRt (x : S51) : Go.Proofs.Ytnhdfjcecgjlgaa.Mq.Rt := ⟨x.f0.data.toList, x.f1.map toPf, x.f2.map toLk, x.f3.map toWy, x.f4⟩
theorem K_toRt {w : World} (x : S51) (cs : List Value) (h : k51.K w x cs) : Go.Proofs.Ytnhdfjcecgjlgaa.Mq.rtR.K w (· < w.heap.size) (toRt x) cs := by
  obtain ⟨A1, c1, A2, c2, A3, c3, rfl, l1, h1, l2, h2, l3, h3⟩ := k51_open h; have e1 : (toRt x).nets.length = x.f1.length := List.length_map _; have e2 : (toRt x).links.length = x.f2.length := List.length_map _; have e3 : (toRt x).ways.length = x.f3.length := List.length_map _; (have eb : Value.string x.f0 = Value.string (Go.Proofs.Ytnhdfjcecgjlgaa.Mq.bs (toRt x).name) := by rw [show (toRt x).name = x.f0.data.toList from rfl, bs_data]); exact ⟨_, _, rfl, eb, _, _, rfl, ⟨A1, c1, by rw [e1], by rw [e1]; exact l1, Go.Proofs.Ytnhdfjcecgjlgaa.Bridge.row_of_C toPf rfl (show 0 < 2 by decide) (fun x cs => K_toPf x cs) h1⟩, _, _, rfl, ⟨A2, c2, by rw [e2], by rw [e2]; exact l2, Go.Proofs.Ytnhdfjcecgjlgaa.Bridge.row_of_C toLk rfl (show 0 < 5 by decide) (fun x cs => K_toLk x cs) h2⟩, _, _, rfl, ⟨A3, c3, by rw [e3], by rw [e3]; exact l3, Go.Proofs.Ytnhdfjcecgjlgaa.Bridge.row_of_C toWy rfl (show 0 < 4 by decide) (fun x cs => K_toWy x cs) h3⟩, _, _, rfl, rfl, rfl⟩
theorem rows_rt {w : World} {A : Option Addr} {n : Nat} {g : List S51} (h : Kd.C k51 w A n g) : Go.Proofs.Ytnhdfjcecgjlgaa.Mq.Row Go.Proofs.Ytnhdfjcecgjlgaa.Mq.rtR w (· < w.heap.size) A (g.map toRt) :=
  Go.Proofs.Ytnhdfjcecgjlgaa.Bridge.row_of_C (r := Go.Proofs.Ytnhdfjcecgjlgaa.Mq.rtR) toRt rfl (show 0 < 5 by decide) (fun x cs h => K_toRt x cs h) h
def toMp (x : S59) : Go.Proofs.Ytnhdfjcecgjlgaa.Mq.Mp := ⟨x.f0.data.toList, x.f1.map toCl, x.f2⟩
theorem K_toMp {w : World} (x : S59) (cs : List Value) (h : k59.K w x cs) : Go.Proofs.Ytnhdfjcecgjlgaa.Mq.mpR.K w (· < w.heap.size) (toMp x) cs := by
  obtain ⟨A1, c1, rfl, l1, h1⟩ := k59_open h; have e1 : (toMp x).clauses.length = x.f1.length := List.length_map _; (have eb : Value.string x.f0 = Value.string (Go.Proofs.Ytnhdfjcecgjlgaa.Mq.bs (toMp x).name) := by rw [show (toMp x).name = x.f0.data.toList from rfl, bs_data]); exact ⟨_, _, rfl, eb, _, _, rfl, ⟨A1, c1, by rw [e1], by rw [e1]; exact l1, Go.Proofs.Ytnhdfjcecgjlgaa.Bridge.row_of_C toCl rfl (show 0 < 10 by decide) (fun x cs => K_toCl x cs) h1⟩, _, _, rfl, rfl, rfl⟩
theorem rows_mp {w : World} {A : Option Addr} {n : Nat} {g : List S59} (h : Kd.C k59 w A n g) : Go.Proofs.Ytnhdfjcecgjlgaa.Mq.Row Go.Proofs.Ytnhdfjcecgjlgaa.Mq.mpR w (· < w.heap.size) A (g.map toMp) :=
  Go.Proofs.Ytnhdfjcecgjlgaa.Bridge.row_of_C (r := Go.Proofs.Ytnhdfjcecgjlgaa.Mq.mpR) toMp rfl (show 0 < 3 by decide) (fun x cs h => K_toMp x cs h) h
def frCl (y : Go.Proofs.Ytnhdfjcecgjlgaa.Mq.Cl) : S81 := ⟨y.any, ⟨y.pre.addr, y.pre.bits⟩, y.wth, y.out, y.drop, y.set, y.clr, y.more, y.pref⟩
theorem K_frCl {w : World} {S : Nat → Prop} (y : Go.Proofs.Ytnhdfjcecgjlgaa.Mq.Cl) (cs : List Value) (h : Go.Proofs.Ytnhdfjcecgjlgaa.Mq.clR.K w S y cs) : k81.K w (frCl y) cs := by
  have h_ : cs = Go.Proofs.Ytnhdfjcecgjlgaa.Mq.Cl.enc y := h; subst h_; exact k81_mk w (frCl y)
def frEd (y : Go.Proofs.Ytnhdfjcecgjlgaa.Mq.Ed) : S55 := ⟨y.frm, y.cost, y.exp.map frCl, y.imp.map frCl⟩
theorem K_frEd {w : World} {S : Nat → Prop} (y : Go.Proofs.Ytnhdfjcecgjlgaa.Mq.Ed) (cs : List Value) (h : Go.Proofs.Ytnhdfjcecgjlgaa.Mq.edR.K w S y cs) : k55.K w (frEd y) cs := by
  obtain ⟨_, _, rfl, rfl, _, _, rfl, rfl, _, _, rfl, ⟨A2, c2, rfl, l2, h2⟩, _, _, rfl, ⟨A3, c3, rfl, l3, h3⟩, rfl⟩ := h; have e2 : (frEd y).f2.length = y.exp.length := List.length_map _; have e3 : (frEd y).f3.length = y.imp.length := List.length_map _; have k2 := Go.Proofs.Ytnhdfjcecgjlgaa.Bridge.C_of_row (d := k81) (r := Go.Proofs.Ytnhdfjcecgjlgaa.Mq.clR) frCl rfl (fun y cs hk => K_frCl y cs hk) h2; have k3 := Go.Proofs.Ytnhdfjcecgjlgaa.Bridge.C_of_row (d := k81) (r := Go.Proofs.Ytnhdfjcecgjlgaa.Mq.clR) frCl rfl (fun y cs hk => K_frCl y cs hk) h3; have := k55_mk w (frEd y) (A2 := A2) (c2 := c2) (by rw [e2]; exact l2) (by rw [e2]; exact k2) (A3 := A3) (c3 := c3) (by rw [e3]; exact l3) (by rw [e3]; exact k3); rw [e2, e3] at this; exact this
end Go.Proofs.Ytnhdfjcecgjlgaa.PNt
