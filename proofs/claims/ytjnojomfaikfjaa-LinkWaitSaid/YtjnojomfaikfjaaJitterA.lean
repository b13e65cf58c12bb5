/- jitter.Box: what it is in memory; New. -/
import Derived.Test.YtjnojomfaikfjaaQueueA
import Derived.Test.YtjnojomfaikfjaaRingNDu
namespace Go.Proofs.Ytjnojomfaikfjaa
set_option linter.unusedSimpArgs false
set_option linter.unusedVariables false
open Go.RowKit Go.Proofs.YtjnojomfaikfjaaW.PrintLast
def Due.cells (d : Due) : List Value := [.int .u64 d.p.n, .int .u64 d.p.size, .int .u64 d.p.sent, .int .u64 d.p.first, .int .u64 d.p.del, .int .u64 d.p.at_, .bool d.p.lim, .int .u64 d.t]
structure JbxAt (w : World) (b r pb : Nat) (s : Jbx) : Prop where
  blk : Blk w b 168 [.pointer (some ⟨r, 0, none⟩), .int .u64 s.delay, .int .u64 s.jit, .int .u64 s.last]
  row : Du.At w r pb (s.xs.map Due.cells)
section
variable {w w' : World} {b r pb : Nat} {s : Jbx} {bs : List Nat}
theorem JbxAt.keeps (h : JbxAt w b r pb s) (k : Keeps bs w w') (hf : b ∉ bs) (hr : r ∉ bs) (hp : pb ∉ bs) : JbxAt w' b r pb s := ⟨h.blk.keeps k hf, h.row.keeps k hr hp⟩
theorem JbxAt.ne1 (h : JbxAt w b r pb s) : b ≠ r := by
  obtain ⟨_, _, _, _, h'⟩ := h.row
  exact h.blk.ne_ h'.ring (by decide)
theorem JbxAt.ne2 (h : JbxAt w b r pb s) : b ≠ pb := by
  obtain ⟨_, _, _, _, h'⟩ := h.row
  exact h.blk.ne_ h'.places (by decide)
theorem JbxAt.c0 (h : JbxAt w b r pb s) : w.cell? ⟨b, 0, none⟩ = some (.pointer (some ⟨r, 0, none⟩)) := (h.blk.cell 0).trans rfl
theorem JbxAt.c1 (h : JbxAt w b r pb s) : w.cell? ⟨b, 1, none⟩ = some (.int .u64 s.delay) := (h.blk.cell 1).trans rfl
theorem JbxAt.c2 (h : JbxAt w b r pb s) : w.cell? ⟨b, 2, none⟩ = some (.int .u64 s.jit) := (h.blk.cell 2).trans rfl
theorem JbxAt.c3 (h : JbxAt w b r pb s) : w.cell? ⟨b, 3, none⟩ = some (.int .u64 s.last) := (h.blk.cell 3).trans rfl
end
theorem jbx_new (d j : Int) (w : World) : Calls Try.prog 52 #[.int .u64 d, .int .u64 j] w fun e w' => ∃ b r pb, e = .returned (.pointer (some ⟨b, 0, none⟩)) ∧ JbxAt w' b r pb ⟨d, j, 0, []⟩ ∧ w.heap.size ≤ b ∧ w.heap.size ≤ r ∧ w.heap.size ≤ pb ∧ Keeps [] w w' := by
  go_enter Try.func52, Try.ntmps52
  go_wp2_with (fail)
  refine (Du.new _).mono ?_
  rintro e w1 ⟨r, pb, rfl, hr, h1, h2, hk⟩
  go_wp2
  go_ret
  have hs := hk.size
  exact ⟨w1.heap.size, r, pb, rfl, ⟨Blk.new w1 _ [.pointer (some ⟨r, 0, none⟩), .int .u64 d, .int .u64 j, .int .u64 0], hr.keeps ((Keeps.refl [] w1).alloc _) (by simp) (by simp)⟩, hs, h1, h2, hk.alloc _⟩
end Go.Proofs.Ytjnojomfaikfjaa
