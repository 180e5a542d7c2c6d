/- Texts of this work, joined: LoN, PNtx1, PNtx17, PNtx20. -/
import Derived.Test.YtnhdfjcecgjlgaaJ5
import Derived.Test.YtnhdfjcecgjlgaaPNtx0
import Derived.Test.YtnhdfjcecgjlgaaShort
import Derived.Test.YtnhdfjcecgjlgaaSh2
import Derived.Test.YtnhdfjcecgjlgaaPeer
import Derived.Test.YtnhdfjcecgjlgaaBridge
import Derived.Test.YtnhdfjcecgjlgaaPNtx3
import Derived.Test.YtnhdfjcecgjlgaaJ2
section
namespace Go.Proofs.Ytnhdfjcecgjlgaa.LoN
open Go.RowKit Go.Proofs.Ytnhdfjcecgjlgaa.PNt Go.Proofs.YtnhdfjcecgjlgaaW.PrintWords Go.Proofs.YtnhdfjcecgjlgaaW.PrintLast Go.Proofs.YtnhdfjcecgjlgaaW.PrintMore Go.Proofs.Ytnhdfjcecgjlgaa.Low Go.Proofs.Ytnhdfjcecgjlgaa.LiC
open Go.Proofs.Ytnhdfjcecgjlgaa.Mq (Pf Rt Cl Ed Mp Lk)
set_option linter.unusedVariables false
set_option linter.unusedSimpArgs false
set_option linter.all false
theorem index_mem (ac : List Pf) (p : Pf) : 0 ≤ indexB ac p ↔ p ∈ ac := by
  unfold indexB
  cases h : ac.findIdx? (fun q => p == q) with
  | none =>
    rw [List.findIdx?_eq_none_iff] at h; constructor
    · intro h'; exact absurd h' (by decide)
    · intro hp
      have := h p hp; simp at this
  | some k =>
    rw [List.findIdx?_eq_some_iff_getElem] at h; obtain ⟨hk, h1, -⟩ := h; constructor
    · intro _
      (have : p = ac[k] := by simpa using h1); rw [this]; exact List.getElem_mem hk
    · intro _
      exact Int.natCast_nonneg k
section
variable (a0 : Int) (ls : List Int) (mp : List (List Cfg.SU)) (ns nt ws : List Int)
theorem nm_inj : ∀ a b : Fin 8, (Cfg.nm a.val).data.toList = (Cfg.nm b.val).data.toList → a = b := by decide +kernel
end
end Go.Proofs.Ytnhdfjcecgjlgaa.LoN
end
section
namespace Go.Proofs.Ytnhdfjcecgjlgaa.PNt
open Go.RowKit Go.Proofs.YtnhdfjcecgjlgaaW.PrintWords Go.Proofs.YtnhdfjcecgjlgaaW.PrintLast Go.Proofs.YtnhdfjcecgjlgaaW.PrintMore
attribute [local go_sem] max2_int min2_int max_two min_two max_three min_three max_four min_four
set_option linter.unusedVariables false
set_option linter.unusedSimpArgs false
theorem eqA36 (d : Nat) (w : World) (x0 y0 : Int) (x1 y1 : Int) :
    (Op.equalIn (d + 2) 36 (.agg #[.int .u32 x0, .int .i64 x1]) (.agg #[.int .u32 y0, .int .i64 y1])).run Try.prog w = .ok (x0 == y0 && (x1 == y1)) w := by
  refine eqA_of Try.underlying36 (by kernel_rfl) ?_; refine eqf_cons (by rfl) (by go_simp; rfl) (by go_simp; rfl) (by go_simp) ?_; exact eqf_last (by rfl) (by go_simp; rfl) (by go_simp; rfl) (by go_simp)
end Go.Proofs.Ytnhdfjcecgjlgaa.PNt
end
section
namespace Go.Proofs.Ytnhdfjcecgjlgaa.PNt
open Go.RowKit Go.Proofs.Ytnhdfjcecgjlgaa.Short Go.Proofs.YtnhdfjcecgjlgaaW.PrintWords Go.Proofs.YtnhdfjcecgjlgaaW.PrintLast Go.Proofs.YtnhdfjcecgjlgaaW.PrintMore
attribute [local go_sem] max2_int min2_int max_two min_two max_three min_three max_four min_four
set_option linter.unusedVariables false
set_option linter.unusedSimpArgs false
def check_Peer.q (l : List (S47)) (a1 : ByteArray) : Option Go.Proofs.Ytnhdfjcecgjlgaa.Mq.Lk := Go.Proofs.Ytnhdfjcecgjlgaa.Low.peerB (l.map toLk) a1.data.toList
def check_Peer.f (k : Nat) (a0_0 : ByteArray) (l0_1 : List (S36)) (l0_2 : List (S47)) (l0_3 : List (S63)) (a0_4 : Int) (a1 : ByteArray) : Option (ByteArray × Int × ByteArray × ByteArray × Int × Bool) := some (Go.Proofs.Ytnhdfjcecgjlgaa.Mq.bs ((check_Peer.q l0_2 a1).getD Go.Proofs.Ytnhdfjcecgjlgaa.Low.lk0).peer, ((check_Peer.q l0_2 a1).getD Go.Proofs.Ytnhdfjcecgjlgaa.Low.lk0).cost, Go.Proofs.Ytnhdfjcecgjlgaa.Mq.bs ((check_Peer.q l0_2 a1).getD Go.Proofs.Ytnhdfjcecgjlgaa.Low.lk0).imp, Go.Proofs.Ytnhdfjcecgjlgaa.Mq.bs ((check_Peer.q l0_2 a1).getD Go.Proofs.Ytnhdfjcecgjlgaa.Low.lk0).exp, ((check_Peer.q l0_2 a1).getD Go.Proofs.Ytnhdfjcecgjlgaa.Low.lk0).at_, (check_Peer.q l0_2 a1).isSome)
theorem check_Peer.calls (k : Nat) (a0_0 : ByteArray) (A0_1 : Option Addr) (c0_1 : Nat) (l0_1 : List (S36)) (A0_2 : Option Addr) (c0_2 : Nat) (l0_2 : List (S47)) (A0_3 : Option Addr) (c0_3 : Nat) (l0_3 : List (S63)) (a0_4 : Int) (a1 : ByteArray) (r1 : ByteArray) (r2 : Int) (r3 : ByteArray) (r4 : ByteArray) (r5 : Int) (r6 : Bool) (w : World) (hr0_1 : Kd.C k36 w A0_1 l0_1.length l0_1) (hc0_1 : l0_1.length ≤ c0_1) (hr0_2 : Kd.C k47 w A0_2 l0_2.length l0_2) (hc0_2 : l0_2.length ≤ c0_2) (hr0_3 : Kd.C k63 w A0_3 l0_3.length l0_3) (hc0_3 : l0_3.length ≤ c0_3) (h : check_Peer.f k a0_0 l0_1 l0_2 l0_3 a0_4 a1 = some (r1, r2, r3, r4, r5, r6)) :
  Calls Try.prog 20 #[.agg #[.string a0_0, .slice A0_1 l0_1.length c0_1, .slice A0_2 l0_2.length c0_2, .slice A0_3 l0_3.length c0_3, .int .i64 a0_4], .string a1] w fun e w' => e = .returned (.tuple #[.agg #[.string r1, .int .i64 r2, .string r3, .string r4, .int .i64 r5], .bool r6]) ∧ Below w.heap.size w w' := by
  unfold check_Peer.f at h; have h := Option.some.inj h; simp only [Prod.mk.injEq] at h; obtain ⟨rfl, rfl, rfl, rfl, rfl, rfl⟩ := h; have hc := Go.Proofs.Ytnhdfjcecgjlgaa.Low.peer_calls (n2 := c0_2) (Go.Proofs.Ytnhdfjcecgjlgaa.Bridge.row_of_C (r := Go.Proofs.Ytnhdfjcecgjlgaa.Mq.lkR) toLk rfl (show 0 < 5 by decide) (fun x cs hk => K_toLk x cs hk) hr0_2) (.string a0_0) (.slice A0_1 l0_1.length c0_1) (.slice A0_3 l0_3.length c0_3) (.int .i64 a0_4) a1.data.toList; rw [List.length_map, bs_data] at hc; exact hc.mono fun e W ⟨he, H⟩ => ⟨he, H.below⟩
def prefix_Covers.f (a0_0 : Int) (a0_1 : Int) (a1_0 : Int) (a1_1 : Int) : Option (Bool) := some (Go.Proofs.Ytnhdfjcecgjlgaa.Pfx.coversB ⟨a0_0, a0_1⟩ ⟨a1_0, a1_1⟩)
theorem prefix_Covers.calls (a0_0 : Int) (a0_1 : Int) (a1_0 : Int) (a1_1 : Int) (r : Bool) (w : World) (h : prefix_Covers.f a0_0 a0_1 a1_0 a1_1 = some r) :
  Calls Try.prog 23 #[.agg #[.int .u32 a0_0, .int .i64 a0_1], .agg #[.int .u32 a1_0, .int .i64 a1_1]] w fun e w' => e = .returned (.bool r) ∧ Below w.heap.size w w' := by
 obtain rfl := Option.some.inj h; exact (Go.Proofs.Ytnhdfjcecgjlgaa.Pfx.covers_calls a0_0 a0_1 a1_0 a1_1).mono fun e W' ⟨he, H⟩ => ⟨he, Go.Proofs.Ytnhdfjcecgjlgaa.Mq.MemM.below H⟩
end Go.Proofs.Ytnhdfjcecgjlgaa.PNt
end
