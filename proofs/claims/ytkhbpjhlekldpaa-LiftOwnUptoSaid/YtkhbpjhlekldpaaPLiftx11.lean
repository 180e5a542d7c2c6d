-- Written by wip/xprint.py of this work: the printer of the kit, with contracts of this work beside it, shortened.
import Derived.Test.YtkhbpjhlekldpaaPLiftx0
namespace Go.Proofs.Ytkhbpjhlekldpaa.PLift
open Go.RowKit Go.Proofs.YtkhbpjhlekldpaaW.PrintWords Go.Proofs.YtkhbpjhlekldpaaW.PrintLast Go.Proofs.YtkhbpjhlekldpaaW.PrintMore
attribute [local go_sem] max2_int min2_int max_two min_two max_three min_three max_four min_four   -- for this text's walks alone
set_option linter.unusedVariables false
set_option linter.unusedSimpArgs false

def toCl (x : S119) : Go.Proofs.Ytkhbpjhlekldpaa.Mq.Cl := ⟨x.f0, ⟨x.f1.f0, x.f1.f1⟩, x.f2, x.f3, x.f4, x.f5, x.f6, x.f7, x.f8⟩
theorem K_toCl {w : World} {S : Nat → Prop} (x : S119) (cs : List Value) (h : k119.K w x cs) : Go.Proofs.Ytkhbpjhlekldpaa.Mq.clR.K w S (toCl x) cs := by have h_ := k119_open h; subst h_; rfl
def toEd (x : S51) : Go.Proofs.Ytkhbpjhlekldpaa.Mq.Ed := ⟨x.f0, x.f1, x.f2.map toCl, x.f3.map toCl⟩
theorem K_toEd {w : World} (x : S51) (cs : List Value) (h : k51.K w x cs) : Go.Proofs.Ytkhbpjhlekldpaa.Mq.edR.K w (· < w.heap.size) (toEd x) cs := by
  obtain ⟨A2, c2, A3, c3, rfl, l2, h2, l3, h3⟩ := k51_open h
  exact ⟨_, _, rfl, rfl, _, _, rfl, rfl, _, _, rfl, ⟨A2, c2, by rw [show (toEd x).exp.length = x.f2.length from List.length_map _], by rw [show (toEd x).exp.length = x.f2.length from List.length_map _]; exact l2, Go.Proofs.Ytkhbpjhlekldpaa.Bridge.row_of_C toCl rfl (show 0 < 10 by decide) (fun x cs => K_toCl x cs) h2⟩, _, _, rfl, ⟨A3, c3, by rw [show (toEd x).imp.length = x.f3.length from List.length_map _], by rw [show (toEd x).imp.length = x.f3.length from List.length_map _]; exact l3, Go.Proofs.Ytkhbpjhlekldpaa.Bridge.row_of_C toCl rfl (show 0 < 10 by decide) (fun x cs => K_toCl x cs) h3⟩, rfl⟩
theorem rows_ed {w : World} {A : Option Addr} {e n : Nat} {g : List (List S51)} (h : Kd.C (Kd.slice e k51) w A n g) : Go.Proofs.Ytkhbpjhlekldpaa.Mq.Row (Go.Proofs.Ytkhbpjhlekldpaa.Mq.slice Go.Proofs.Ytkhbpjhlekldpaa.Mq.edR) w (· < w.heap.size) A (g.map (·.map toEd)) :=
  Go.Proofs.Ytkhbpjhlekldpaa.Bridge.row_of_C (r := Go.Proofs.Ytkhbpjhlekldpaa.Mq.slice Go.Proofs.Ytkhbpjhlekldpaa.Mq.edR) (fun x : List S51 => x.map toEd) rfl (show 0 < 1 by decide) (fun x cs hx => Go.Proofs.Ytkhbpjhlekldpaa.Bridge.K_slice (r := Go.Proofs.Ytkhbpjhlekldpaa.Mq.edR) toEd rfl (show 0 < 4 by decide) (fun x cs h => K_toEd x cs h) x cs hx) h
def toAt (x : S41) : Go.Proofs.Ytkhbpjhlekldpaa.OfP.At := ⟨x.f0, x.f1, x.f2, x.f3⟩
theorem row_at {w : World} {A : Option Addr} {n : Nat} {g : List S41} (h : Kd.C k41 w A n g) : Go.Proofs.Ytkhbpjhlekldpaa.Mq.Row Go.Proofs.Ytkhbpjhlekldpaa.OfP.atR w (· < w.heap.size) A (g.map toAt) :=
  Go.Proofs.Ytkhbpjhlekldpaa.Bridge.row_of_C (r := Go.Proofs.Ytkhbpjhlekldpaa.OfP.atR) toAt rfl (show 0 < 4 by decide) (fun x cs hx => by have h_ := k41_open hx; subst h_; rfl) h

end Go.Proofs.Ytkhbpjhlekldpaa.PLift
