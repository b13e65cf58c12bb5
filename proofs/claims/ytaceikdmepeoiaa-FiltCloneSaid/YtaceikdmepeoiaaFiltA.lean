/- filt.Filter: what it is in memory; Most, Least, Time, better, Best. -/
import Derived.Test.YtaceikdmepeoiaaRingHRd
import Derived.Test.YtaceikdmepeoiaaFixA
namespace Go.Proofs.Ytaceikdmepeoiaa
set_option linter.unusedSimpArgs false
set_option linter.unusedVariables false
open Go.RowKit Go.Proofs.YtaceikdmepeoiaaW.PrintLast
structure Rdg where
  t : Int
  x : Int
def Rdg.cells (r : Rdg) : List Value := [.int .u64 r.t, .int .u64 r.x]
/-- A filter: window, time, for the least or not, its readings. -/
structure Flt where
  W : Int
  now : Int
  least : Bool
  xs : List Rdg
structure FiltAt (w : World) (f r pb : Nat) (s : Flt) : Prop where
  blk : Blk w f 148 [.pointer (some ⟨r, 0, none⟩), .int .u64 s.W, .int .u64 s.now, .bool s.least]
  row : Rd.At w r pb (s.xs.map Rdg.cells)
section
variable {w w' : World} {f r pb : Nat} {s : Flt} {bs : List Nat}
theorem FiltAt.keeps (h : FiltAt w f r pb s) (k : Keeps bs w w') (hf : f ∉ bs) (hr : r ∉ bs) (hp : pb ∉ bs) : FiltAt w' f r pb s := ⟨h.blk.keeps k hf, h.row.keeps k hr hp⟩
theorem FiltAt.ne1 (h : FiltAt w f r pb s) : f ≠ r := by
  obtain ⟨_, _, _, _, h'⟩ := h.row
  exact h.blk.ne_ h'.ring (by decide)
theorem FiltAt.ne2 (h : FiltAt w f r pb s) : f ≠ pb := by
  obtain ⟨_, _, _, _, h'⟩ := h.row
  exact h.blk.ne_ h'.places (by decide)
theorem FiltAt.c0 (h : FiltAt w f r pb s) : w.cell? ⟨f, 0, none⟩ = some (.pointer (some ⟨r, 0, none⟩)) := (h.blk.cell 0).trans rfl
theorem FiltAt.c1 (h : FiltAt w f r pb s) : w.cell? ⟨f, 1, none⟩ = some (.int .u64 s.W) := (h.blk.cell 1).trans rfl
theorem FiltAt.c2 (h : FiltAt w f r pb s) : w.cell? ⟨f, 2, none⟩ = some (.int .u64 s.now) := (h.blk.cell 2).trans rfl
theorem FiltAt.c3 (h : FiltAt w f r pb s) : w.cell? ⟨f, 3, none⟩ = some (.bool s.least) := (h.blk.cell 3).trans rfl
end
theorem most_calls (W : Int) (w : World) : Calls Try.prog 74 #[.int .u64 W] w fun e w' => ∃ f r pb, e = .returned (.pointer (some ⟨f, 0, none⟩)) ∧ FiltAt w' f r pb ⟨W, 0, false, []⟩ ∧ w.heap.size ≤ f ∧ w.heap.size ≤ r ∧ w.heap.size ≤ pb ∧ Keeps [] w w' := by
  go_enter Try.func74, Try.ntmps74
  go_wp2_with (fail)
  refine (Rd.new _).mono ?_
  rintro e w1 ⟨r, pb, rfl, hr, h1, h2, hk⟩
  go_wp2
  go_ret
  have hs := hk.size
  exact ⟨w1.heap.size, r, pb, rfl, ⟨Blk.new w1 _ [.pointer (some ⟨r, 0, none⟩), .int .u64 W, .int .u64 0, .bool false], hr.keeps ((Keeps.refl [] w1).alloc _) (by simp) (by simp)⟩, hs, h1, h2, hk.alloc _⟩
theorem least_calls (W : Int) (w : World) : Calls Try.prog 73 #[.int .u64 W] w fun e w' => ∃ f r pb, e = .returned (.pointer (some ⟨f, 0, none⟩)) ∧ FiltAt w' f r pb ⟨W, 0, true, []⟩ ∧ w.heap.size ≤ f ∧ w.heap.size ≤ r ∧ w.heap.size ≤ pb ∧ Keeps [] w w' := by
  go_enter Try.func73, Try.ntmps73
  go_wp2_with (fail)
  refine (most_calls W _).mono ?_
  rintro e w1 ⟨f, r, pb, rfl, h, h1, h2, h3, hk⟩
  have g3 := h.c3
  have k3 := h.blk.frozen 3
  go_wp2
  go_ret
  have hb := h.blk
  have n1 := h.ne1.symm
  have n2 := h.ne2.symm
  have K0 : Keeps [f] w1 w1 := Keeps.refl _ _
  have K1 : Keeps [f] w1 (w1.setCell ⟨f, 3, none⟩ (.bool true)) := (by repeat (first | with_reducible exact K0 | refine Keeps.drew ?_ | refine Keeps.drewN ?_ _ | refine Keeps.alloc ?_ _ | refine Keeps.set_ ?_ (by first | (left; simp; done) | (right; simp; done) | (right; simp; omega) | (right; omega)) _))
  exact ⟨f, r, pb, rfl, ⟨(by (repeat (first | with_reducible exact hb | with_reducible apply Blk.drew | with_reducible apply Blk.drewN | with_reducible refine Blk.newAt (by simp; done) | with_reducible apply Blk.alloc | with_reducible apply Blk.set2 | with_reducible apply Blk.far)); (all_goals (first | rfl | assumption | (simp; done) | (simp; omega) | omega))), h.row.keeps K1 (by simp; omega) (by simp; omega)⟩, h1, h2, h3, hk.trans K1 (by simp; omega)⟩
theorem time_calls (f r pb : Nat) (s : Flt) (w : World) (h : FiltAt w f r pb s) : Calls Try.prog 21 #[.pointer (some ⟨f, 0, none⟩)] w fun e w' => e = .returned (.int .u64 s.now) ∧ w' = w := by
  have g2 := h.c2
  go_enter Try.func21, Try.ntmps21
  go_wp2
  go_ret
  exact ⟨rfl, rfl⟩
theorem time_nil (w : World) : Calls Try.prog 21 #[.pointer none] w fun e w' => e = .returned (.int .u64 0) ∧ w' = w := by
  go_enter Try.func21, Try.ntmps21
  go_wp2
  go_ret
  exact ⟨rfl, rfl⟩
def better (least : Bool) (x y : Int) : Bool := if least then decide (x < y) else decide (y < x)
theorem better_calls (f : Nat) (l : Bool) (x y : Int) (w : World) (g3 : w.cell? ⟨f, 3, none⟩ = some (.bool l)) : Calls Try.prog 82 #[.pointer (some ⟨f, 0, none⟩), .int .u64 x, .int .u64 y] w fun e w' => e = .returned (.bool (better l x y)) ∧ w' = w := by
  cases l with
  | true =>
    go_enter Try.func82, Try.ntmps82
    go_wp2
    go_ret
    exact ⟨by simp [better], rfl⟩
  | false =>
    go_enter Try.func82, Try.ntmps82
    go_wp2
    go_ret
    exact ⟨by simp [better], rfl⟩
theorem best_nil (w : World) : Calls Try.prog 18 #[.pointer none] w fun e w' => e = .returned (.tuple #[.int .u64 0, .int .u64 0, .bool false]) ∧ w' = w := by
  go_enter Try.func18, Try.ntmps18
  go_wp2
  go_ret3
  exact ⟨rfl, rfl⟩
end Go.Proofs.Ytaceikdmepeoiaa
