/- The walks of ring.Ring[api.Packet]: At, Shift, Pop. -/
import Derived.Test.YtjnojomfaikfjaaRingAPk
import Derived.Test.YtjnojomfaikfjaaRingW
namespace Go.Proofs.Ytjnojomfaikfjaa
set_option linter.unusedSimpArgs false
set_option linter.unusedVariables false
open Go.RowKit Go.Proofs.YtjnojomfaikfjaaW.PrintLast
namespace Pk
abbrev At (w : World) (r pb : Nat) (xs : List (List Value)) : Prop := RingAt 73 196 7 w r pb xs
set_option maxHeartbeats 400000 in
theorem at_yes0 (r pb N C frm n i s : Nat) (a0 a1 a2 a3 a4 a5 : Int) (a6 : Bool) (w : World) (hi : i < N) (hin : i < n) (hf : frm < N) (hN : N ≤ 4294967296) (hpb : pb < w.heap.size)
    (h0 : w.cell? ⟨r, 0, none⟩ = some (.slice (some ⟨pb, 0, none⟩) N C)) (h1 : w.cell? ⟨r, 1, none⟩ = some (.int .i64 frm)) (h2 : w.cell? ⟨r, 2, none⟩ = some (.int .i64 n)) (hs : Hid (s = YtjnojomfaikfjaaR.slot frm N i))
    (g0 : w.cell? ⟨pb, s * 7 + 0, none⟩ = some (.int .u64 a0)) (g1 : w.cell? ⟨pb, s * 7 + 1, none⟩ = some (.int .u64 a1)) (g2 : w.cell? ⟨pb, s * 7 + 2, none⟩ = some (.int .u64 a2)) (g3 : w.cell? ⟨pb, s * 7 + 3, none⟩ = some (.int .u64 a3)) (g4 : w.cell? ⟨pb, s * 7 + 4, none⟩ = some (.int .u64 a4)) (g5 : w.cell? ⟨pb, s * 7 + 5, none⟩ = some (.int .u64 a5)) (g6 : w.cell? ⟨pb, s * 7 + 6, none⟩ = some (.bool a6)) :
    Calls Try.prog 100 #[.pointer (some ⟨r, 0, none⟩), .int .i64 i] w fun e w' => e = .returned (.tuple #[.agg #[.int .u64 a0, .int .u64 a1, .int .u64 a2, .int .u64 a3, .int .u64 a4, .int .u64 a5, .bool a6], .bool true]) ∧ Keeps [] w w' := by
  have hr : r < w.heap.size := World.block_lt_of_cell? w _ h2
  have k0 : (w.alloc (.cells #[.int .u64 0, .int .u64 0, .int .u64 0, .int .u64 0, .int .u64 0, .int .u64 0, .bool false] 73)).cell? ⟨r, 0, none⟩ = some (.slice (some ⟨pb, 0, none⟩) N C) := (World.cell?_alloc_past _ _ _ hr).trans h0
  have k1 : (w.alloc (.cells #[.int .u64 0, .int .u64 0, .int .u64 0, .int .u64 0, .int .u64 0, .int .u64 0, .bool false] 73)).cell? ⟨r, 1, none⟩ = some (.int .i64 frm) := (World.cell?_alloc_past _ _ _ hr).trans h1
  have k2 : (w.alloc (.cells #[.int .u64 0, .int .u64 0, .int .u64 0, .int .u64 0, .int .u64 0, .int .u64 0, .bool false] 73)).cell? ⟨r, 2, none⟩ = some (.int .i64 n) := (World.cell?_alloc_past _ _ _ hr).trans h2
  have j0 : (w.alloc (.cells #[.int .u64 0, .int .u64 0, .int .u64 0, .int .u64 0, .int .u64 0, .int .u64 0, .bool false] 73)).drew.cell? ⟨pb, s * 7 + 0, none⟩ = some (.int .u64 a0) := (World.cell?_alloc_past _ _ _ hpb).trans g0
  have j1 : (w.alloc (.cells #[.int .u64 0, .int .u64 0, .int .u64 0, .int .u64 0, .int .u64 0, .int .u64 0, .bool false] 73)).drew.cell? ⟨pb, s * 7 + 1, none⟩ = some (.int .u64 a1) := (World.cell?_alloc_past _ _ _ hpb).trans g1
  have j2 : (w.alloc (.cells #[.int .u64 0, .int .u64 0, .int .u64 0, .int .u64 0, .int .u64 0, .int .u64 0, .bool false] 73)).drew.cell? ⟨pb, s * 7 + 2, none⟩ = some (.int .u64 a2) := (World.cell?_alloc_past _ _ _ hpb).trans g2
  have j3 : (w.alloc (.cells #[.int .u64 0, .int .u64 0, .int .u64 0, .int .u64 0, .int .u64 0, .int .u64 0, .bool false] 73)).drew.cell? ⟨pb, s * 7 + 3, none⟩ = some (.int .u64 a3) := (World.cell?_alloc_past _ _ _ hpb).trans g3
  have j4 : (w.alloc (.cells #[.int .u64 0, .int .u64 0, .int .u64 0, .int .u64 0, .int .u64 0, .int .u64 0, .bool false] 73)).drew.cell? ⟨pb, s * 7 + 4, none⟩ = some (.int .u64 a4) := (World.cell?_alloc_past _ _ _ hpb).trans g4
  have j5 : (w.alloc (.cells #[.int .u64 0, .int .u64 0, .int .u64 0, .int .u64 0, .int .u64 0, .int .u64 0, .bool false] 73)).drew.cell? ⟨pb, s * 7 + 5, none⟩ = some (.int .u64 a5) := (World.cell?_alloc_past _ _ _ hpb).trans g5
  have j6 : (w.alloc (.cells #[.int .u64 0, .int .u64 0, .int .u64 0, .int .u64 0, .int .u64 0, .int .u64 0, .bool false] 73)).drew.cell? ⟨pb, s * 7 + 6, none⟩ = some (.bool a6) := (World.cell?_alloc_past _ _ _ hpb).trans g6
  simp only [Nat.add_zero] at j0
  go_enter Try.func100, Try.ntmps100
  go_wp2_with (first | (go_at_call 128; refine (len_any r n _ k2).mono ?_; rintro e w' ⟨rfl, rfl⟩) | (go_at_call 129; refine (place_any r pb N C frm i _ hi hf hN k0 k1 s hs).mono ?_; rintro e w' ⟨rfl, rfl⟩))
  exact bodyPost_ret (v := .tuple #[.agg #[.int .u64 a0, .int .u64 a1, .int .u64 a2, .int .u64 a3, .int .u64 a4, .int .u64 a5, .bool a6], .bool true]) (by simp [results, Try.results100, go_sem]) rfl ⟨rfl, by repeat (first | exact Keeps.refl _ _ | refine Keeps.drew ?_ | refine Keeps.alloc ?_ _ | refine Keeps.set_ ?_ (Or.inr (by simp)) _)⟩
end Pk
end Go.Proofs.Ytjnojomfaikfjaa
