/- The walks of ring.Ring[filt.reading]: At, Shift, Pop. -/
import Derived.Test.YtaceikdmepeoiaaRingARd
import Derived.Test.YtaceikdmepeoiaaRingW
namespace Go.Proofs.Ytaceikdmepeoiaa
set_option linter.unusedSimpArgs false
set_option linter.unusedVariables false
open Go.RowKit Go.Proofs.YtaceikdmepeoiaaW.PrintLast
namespace Rd
abbrev At (w : World) (r pb : Nat) (xs : List (List Value)) : Prop := RingAt 151 230 2 w r pb xs
set_option maxHeartbeats 400000 in
theorem at_yes0 (r pb N C frm n i s : Nat) (a0 a1 : Int) (w : World) (hi : i < N) (hin : i < n) (hf : frm < N) (hN : N ≤ 4294967296) (hpb : pb < w.heap.size)
    (h0 : w.cell? ⟨r, 0, none⟩ = some (.slice (some ⟨pb, 0, none⟩) N C)) (h1 : w.cell? ⟨r, 1, none⟩ = some (.int .i64 frm)) (h2 : w.cell? ⟨r, 2, none⟩ = some (.int .i64 n)) (hs : Hid (s = YtaceikdmepeoiaaR.slot frm N i))
    (g0 : w.cell? ⟨pb, s * 2 + 0, none⟩ = some (.int .u64 a0)) (g1 : w.cell? ⟨pb, s * 2 + 1, none⟩ = some (.int .u64 a1)) :
    Calls Try.prog 79 #[.pointer (some ⟨r, 0, none⟩), .int .i64 i] w fun e w' => e = .returned (.tuple #[.agg #[.int .u64 a0, .int .u64 a1], .bool true]) ∧ Keeps [] w w' := by
  have hr : r < w.heap.size := World.block_lt_of_cell? w _ h2
  have k0 : (w.alloc (.cells #[.int .u64 0, .int .u64 0] 151)).cell? ⟨r, 0, none⟩ = some (.slice (some ⟨pb, 0, none⟩) N C) := (World.cell?_alloc_past _ _ _ hr).trans h0
  have k1 : (w.alloc (.cells #[.int .u64 0, .int .u64 0] 151)).cell? ⟨r, 1, none⟩ = some (.int .i64 frm) := (World.cell?_alloc_past _ _ _ hr).trans h1
  have k2 : (w.alloc (.cells #[.int .u64 0, .int .u64 0] 151)).cell? ⟨r, 2, none⟩ = some (.int .i64 n) := (World.cell?_alloc_past _ _ _ hr).trans h2
  have j0 : (w.alloc (.cells #[.int .u64 0, .int .u64 0] 151)).drew.cell? ⟨pb, s * 2 + 0, none⟩ = some (.int .u64 a0) := (World.cell?_alloc_past _ _ _ hpb).trans g0
  have j1 : (w.alloc (.cells #[.int .u64 0, .int .u64 0] 151)).drew.cell? ⟨pb, s * 2 + 1, none⟩ = some (.int .u64 a1) := (World.cell?_alloc_past _ _ _ hpb).trans g1
  simp only [Nat.add_zero] at j0
  go_enter Try.func79, Try.ntmps79
  go_wp2_with (first | (go_at_call 83; refine (len_any r n _ k2).mono ?_; rintro e w' ⟨rfl, rfl⟩) | (go_at_call 154; refine (place_any r pb N C frm i _ hi hf hN k0 k1 s hs).mono ?_; rintro e w' ⟨rfl, rfl⟩))
  exact bodyPost_ret (v := .tuple #[.agg #[.int .u64 a0, .int .u64 a1], .bool true]) (by simp [results, Try.results79, go_sem]) rfl ⟨rfl, by repeat (first | exact Keeps.refl _ _ | refine Keeps.drew ?_ | refine Keeps.alloc ?_ _ | refine Keeps.set_ ?_ (Or.inr (by simp)) _)⟩
end Rd
end Go.Proofs.Ytaceikdmepeoiaa
