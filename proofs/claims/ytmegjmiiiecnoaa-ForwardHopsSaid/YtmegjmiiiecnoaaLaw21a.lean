/- Walks: law 21's awake, and ForwardMore. -/
import Derived.Test.YtmegjmiiiecnoaaGr
namespace Go.Proofs.Ytmegjmiiiecnoaa.Law21
open Go.RowKit Go.Proofs.Ytmegjmiiiecnoaa.Mq Go.Proofs.Ytmegjmiiiecnoaa.FwP Go.Proofs.Ytmegjmiiiecnoaa.Fw Go.Proofs.Ytmegjmiiiecnoaa.Gr
set_option linter.unusedVariables false
set_option linter.unusedSimpArgs false

set_option maxHeartbeats 1000000 in
set_option maxRecDepth 100000 in
theorem awake_calls {w : World} : Calls Try.prog 9 #[] w fun e W => e = .returned (.bool true) ∧ Mem w W [] [] := by
  have H := MemM.start w
  go_enter Try.func9, Try.ntmps9
  go_wp2_with (first
    | ((with_reducible refine gate_dst (N := 4) rfl ?_); refine wp_lit H (int .i64) 3 [1] [.int .i64 1] rfl (by first | (go_simp; done) | (go_simp; rfl)) (fun _ _ => Reps.single rfl rfl) (by decide) ?_; clear H; intro g4 W4 H; obtain ⟨A4, c4, e4, hc4, H⟩ := H.still; cases e4)
    | ((with_reducible refine gate_dst (N := 5) rfl ?_); refine wp_lit H (int .i64) 3 [0, 2] [.int .i64 0, .int .i64 2] rfl (by first | (go_simp; done) | (go_simp; rfl)) (fun _ _ => Reps.cons (c := [_]) rfl rfl (Reps.single rfl rfl)) (by decide) ?_; clear H; intro g5 W5 H; obtain ⟨A5, c5, e5, hc5, H⟩ := H.still; cases e5)
    | ((with_reducible refine gate_dst (N := 6) rfl ?_); refine wp_lit H (slice (int .i64)) 33 [[1], [0, 2], []] [.slice (some ⟨g4, 0, none⟩) 1 1, .slice (some ⟨g5, 0, none⟩) 2 2, .slice none 0 0] rfl (by first | (go_simp; done) | (go_simp; rfl)) (fun F hF => Reps.cons (c := [_]) (slK hc4 (.tail _ (.head _)) F hF) rfl (Reps.cons (c := [_]) (slK hc5 (.head _) F hF) rfl (Reps.single ⟨none, 0, rfl, Nat.le_refl _, Row.nil⟩ rfl))) (by decide) ?_; clear H; intro g6 W6 H)
    | ((with_reducible refine gate_dst (N := 8) rfl ?_); refine wp_lit H bool 4 [false, false, true] [.bool false, .bool false, .bool true] rfl (by first | (go_simp; done) | (go_simp; rfl)) (fun F hF => Reps.cons (c := [_]) rfl rfl (Reps.cons (c := [_]) rfl rfl (Reps.single rfl rfl))) (by decide) ?_; clear H; intro g8 W8 H; obtain ⟨-, -, hrb⟩ := H.rdx (.head _); obtain ⟨-, -, hrg⟩ := H.rdx (.tail _ (.head _)))
    | (go_at_call 13; refine (hops_calls hrg hrb (by decide)).mono ?_; rintro e W9 ⟨v, rfl, hm⟩; rw [show hopsB [[1], [0, 2], []] [false, false, true] 4 = [[2, 4], [1, 3], [0]] from by decide] at hm; have H := H.call hm; clear hm hrg hrb; obtain ⟨-, -, hrg⟩ := H.rdx (.tail _ (.tail _ (.head _))))
    | (go_at_call 11; refine (loops_calls hrg (by decide)).mono ?_; rintro e W10 ⟨v2, rfl, hm⟩; rw [show loopsB [[1], [0, 2], []] = [true, true, false] from by decide] at hm; have H := H.call hm; clear hm hrg;
        obtain ⟨A9, c9, rfl, -, h9⟩ := H.rd (.tail _ (.head _)); obtain ⟨A10, c10, rfl, -, h10⟩ := H.rd (.head _);
        obtain ⟨a9, A9', c9', rfl, hx, -, h9'⟩ := h9.row1 (i := 0) rfl; obtain ⟨a9', rfl, hy0⟩ := h9'.int1 (i := 0) rfl; obtain ⟨_, e, hy1⟩ := h9'.int1 (i := 1) rfl; cases e;
        obtain ⟨a10, rfl, hz0⟩ := h10.bool1 (i := 0) rfl; obtain ⟨_, e, hz1⟩ := h10.bool1 (i := 1) rfl; cases e; obtain ⟨_, e, hz2⟩ := h10.bool1 (i := 2) rfl; cases e;
        rw [Mq.add_zero] at hx hy0 hz0; rw [show a9'.add 1 = ⟨a9'.block, a9'.off + 1, none⟩ from rfl] at hy1; rw [show a10.add 1 = ⟨a10.block, a10.off + 1, none⟩ from rfl] at hz1; rw [show a10.add 2 = ⟨a10.block, a10.off + 2, none⟩ from rfl] at hz2))
  go_ret
  exact ⟨rfl, (H.onlyR (R1 := []) (fun _ h => by cases h)).drop.drop.drop.drop⟩
end Go.Proofs.Ytmegjmiiiecnoaa.Law21
