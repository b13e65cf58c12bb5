/- Sums of two and three; small words. -/
import Derived.Test.YtjnojomfaikfjaaFixB
import Derived.Test.YtjnojomfaikfjaaRingW
import Derived.Test.YtjnojomfaikfjaaCopy
import Derived.LoopTactic
import Derived.Deep.LoopGhost
namespace Go.Proofs.Ytjnojomfaikfjaa
set_option linter.unusedSimpArgs false
set_option linter.unusedVariables false
open Go.RowKit Go.Proofs.YtjnojomfaikfjaaW.PrintLast
theorem add2 (b : Nat) (x y : Int) (w : World) (hx : U64 x) (hy : U64 y) (t : TypeId) (B : Blk w b t [.int .u64 x, .int .u64 y]) :
    Calls Try.prog 58 #[.slice (some ⟨b, 0, none⟩) 2 2] w fun e w' => e = .returned (.int .u64 (sat (x + y))) ∧ w' = w := by
  have h := fix_add b 2 [x, y] w (by intro z hz; simp at hz; rcases hz with rfl | rfl; exact hx; exact hy) (by simp) (by intro k hk; rw [B.cell]; match k, hk with | 0, _ => rfl | 1, _ => rfl)
  simpa [tot] using h
theorem cell_alloc {w : World} {a : Addr} {v : Value} (h : w.cell? a = some v) (o : Obj) : (w.alloc o).cell? a = some v := (World.cell?_alloc_lt w o a (World.block_lt_of_cell? w a h)).trans h
def ringLen (w : World) (r : Nat) : Nat := (intOf ((w.cell? ⟨r, 2, none⟩).getD (.int .i64 0))).toNat
theorem ringLen_eq {E TR sz : Nat} {w : World} {r pb : Nat} {xs : List (List Value)} (h : RingAt E TR sz w r pb xs) : ringLen w r = xs.length := by
  unfold ringLen; rw [h.c2]; simp [intOf]
end Go.Proofs.Ytjnojomfaikfjaa
