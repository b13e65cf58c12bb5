/- The walks of ring.Ring[jitter.due]: New. -/
import Derived.Test.YtjnojomfaikfjaaRingBDu
import Derived.OwnWalk
import Derived.Laws.MakeOwn
import Derived.Test.YtjnojomfaikfjaaCopy
namespace Go.Proofs.Ytjnojomfaikfjaa
set_option linter.unusedSimpArgs false
set_option linter.unusedVariables false
open Go.RowKit Go.Proofs.YtjnojomfaikfjaaW.PrintLast
namespace Du
set_option maxHeartbeats 20000000 in
set_option maxRecDepth 100000 in
theorem new (w : World) : Calls Try.prog 95 #[.slice none 0 0] w fun e w' => ∃ r pb, e = .returned (.pointer (some ⟨r, 0, none⟩)) ∧ At w' r pb [] ∧ w.heap.size ≤ r ∧ w.heap.size ≤ pb ∧ Keeps [] w w' := by
  have hmk : ∀ W : World, (Instr.makeSlice 175 (.int .i64 4) (.int .i64 4)).run Try.prog W = .ok (.slice (some ⟨W.heap.size, 0, none⟩) 4 4) (W.alloc (.cells #[.int .u64 0, .int .u64 0, .int .u64 0, .int .u64 0, .int .u64 0, .int .u64 0, .bool false, .int .u64 0, .int .u64 0, .int .u64 0, .int .u64 0, .int .u64 0, .int .u64 0, .int .u64 0, .bool false, .int .u64 0, .int .u64 0, .int .u64 0, .int .u64 0, .int .u64 0, .int .u64 0, .int .u64 0, .bool false, .int .u64 0, .int .u64 0, .int .u64 0, .int .u64 0, .int .u64 0, .int .u64 0, .int .u64 0, .bool false, .int .u64 0] 166)) := fun _ => by kernel_rfl
  have hcp : ∀ (W : World) (a : Addr) (dl dc : Nat), (Builtin.copy_ #[175, 175] 3 #[.slice (some a) dl dc, .slice none 0 0]).run Try.prog W = .ok (goInt 0) W := fun W a dl dc => run_copy_nil Try.prog W 175 175 3 166 a dl dc Try.underlying175 (by kernel_rfl)
  go_enter Try.func95, Try.ntmps95
  go_wp2
  go_ret
  refine ⟨w.heap.size + 1, w.heap.size, rfl, ⟨4, 4, 0, [.int .u64 0, .int .u64 0, .int .u64 0, .int .u64 0, .int .u64 0, .int .u64 0, .bool false, .int .u64 0, .int .u64 0, .int .u64 0, .int .u64 0, .int .u64 0, .int .u64 0, .int .u64 0, .bool false, .int .u64 0, .int .u64 0, .int .u64 0, .int .u64 0, .int .u64 0, .int .u64 0, .int .u64 0, .bool false, .int .u64 0, .int .u64 0, .int .u64 0, .int .u64 0, .int .u64 0, .int .u64 0, .int .u64 0, .bool false, .int .u64 0], ?_⟩, by omega, by omega, ?_⟩
  · have X := Blk.new w 166 [.int .u64 0, .int .u64 0, .int .u64 0, .int .u64 0, .int .u64 0, .int .u64 0, .bool false, .int .u64 0, .int .u64 0, .int .u64 0, .int .u64 0, .int .u64 0, .int .u64 0, .int .u64 0, .bool false, .int .u64 0, .int .u64 0, .int .u64 0, .int .u64 0, .int .u64 0, .int .u64 0, .int .u64 0, .bool false, .int .u64 0, .int .u64 0, .int .u64 0, .int .u64 0, .int .u64 0, .int .u64 0, .int .u64 0, .bool false, .int .u64 0]
    have Y := Blk.newAt (w := w.alloc (.cells #[.int .u64 0, .int .u64 0, .int .u64 0, .int .u64 0, .int .u64 0, .int .u64 0, .bool false, .int .u64 0, .int .u64 0, .int .u64 0, .int .u64 0, .int .u64 0, .int .u64 0, .int .u64 0, .bool false, .int .u64 0, .int .u64 0, .int .u64 0, .int .u64 0, .int .u64 0, .int .u64 0, .int .u64 0, .bool false, .int .u64 0, .int .u64 0, .int .u64 0, .int .u64 0, .int .u64 0, .int .u64 0, .int .u64 0, .bool false, .int .u64 0] 166)) (g := w.heap.size + 1) (t := 198) (cs := [.slice (some ⟨w.heap.size, 0, none⟩) 4 4, .int .i64 0, .int .i64 0]) (by simp)
    exact ⟨Y, (by (repeat (first | with_reducible exact X | with_reducible apply Blk.drew | with_reducible apply Blk.drewN | with_reducible refine Blk.newAt (by simp; done) | with_reducible apply Blk.alloc | with_reducible apply Blk.set2 | with_reducible apply Blk.far)); (all_goals (first | rfl | assumption | (simp; done) | (simp; omega) | omega))), YtjnojomfaikfjaaR.RB.new _ _ _ (by simp) (by omega), by omega, by simp, by omega, by omega, by simp [Value.oneCell']⟩
  · have K0 := Keeps.refl [] w
    exact (by (repeat (first | with_reducible exact K0 | with_reducible apply Keeps.drew | with_reducible apply Keeps.drewN | with_reducible apply Keeps.alloc | with_reducible apply Keeps.set_)); (all_goals (first | (left; simp; done) | (right; simp; done) | (right; simp; omega) | (right; omega))))
end Du
end Go.Proofs.Ytjnojomfaikfjaa
