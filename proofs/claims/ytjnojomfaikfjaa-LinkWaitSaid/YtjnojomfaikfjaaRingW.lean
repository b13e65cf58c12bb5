/- A ring in memory. -/
import Derived.Test.YtjnojomfaikfjaaBase
import Derived.Laws.CopyRow
import Derived.Test.YtjnojomfaikfjaaRing0
namespace Go.Proofs.Ytjnojomfaikfjaa
set_option linter.unusedSimpArgs false
set_option linter.unusedVariables false
open Go.RowKit
theorem wr_take : ∀ (vs cells : List Value) (o k : Nat), (YtjnojomfaikfjaaR.wr cells o vs).take k = YtjnojomfaikfjaaR.wr (cells.take k) o vs
  | [], _, _, _ => rfl
  | u :: r, cells, o, k => by rw [YtjnojomfaikfjaaR.wr, YtjnojomfaikfjaaR.wr, wr_take r, List.take_set]
theorem wr_all : ∀ {vs cells : List Value} {o : Nat}, (∀ v ∈ cells, v.oneCell' = true) → (∀ v ∈ vs, v.oneCell' = true) → ∀ v ∈ YtjnojomfaikfjaaR.wr cells o vs, v.oneCell' = true
  | [], _, _, h, _ => h
  | u :: r, cells, o, h, k => by
    rw [YtjnojomfaikfjaaR.wr]
    refine wr_all ?_ (fun v hv => k v (by simp [hv]))
    intro v hv
    rcases List.mem_or_eq_of_mem_set hv with hv | rfl
    · exact h v hv
    · exact k _ (by simp)
theorem wr_one {vs cells : List Value} {o k : Nat} (h : ∀ v ∈ cells.take k, v.oneCell' = true) (hv : ∀ v ∈ vs, v.oneCell' = true) : ∀ v ∈ (YtjnojomfaikfjaaR.wr cells o vs).take k, v.oneCell' = true := by
  rw [wr_take]
  exact wr_all h hv
structure RingIs (E TR sz : Nat) (w : World) (r pb N C frm : Nat) (cells : List Value) (xs : List (List Value)) : Prop where
  ring : Blk w r TR [.slice (some ⟨pb, 0, none⟩) N C, .int .i64 frm, .int .i64 xs.length]
  places : Blk w pb E cells
  rb : YtjnojomfaikfjaaR.RB cells N frm sz xs
  nc : N ≤ C
  len : cells.length = C * sz
  four : 4 ≤ N
  most : N ≤ 4294967296
  one : ∀ v ∈ cells.take (N * sz), v.oneCell' = true
/-- A ring: its block, its places' block, its items' cells. -/
def RingAt (E TR sz : Nat) (w : World) (r pb : Nat) (xs : List (List Value)) : Prop := ∃ N C frm cells, RingIs E TR sz w r pb N C frm cells xs
section
variable {E TR sz : Nat} {w w' : World} {r pb N C frm : Nat} {cells : List Value} {xs : List (List Value)} {bs : List Nat}
theorem RingIs.keeps (h : RingIs E TR sz w r pb N C frm cells xs) (k : Keeps bs w w') (hr : r ∉ bs) (hp : pb ∉ bs) : RingIs E TR sz w' r pb N C frm cells xs :=
  { h with ring := h.ring.keeps k hr, places := h.places.keeps k hp }
theorem RingAt.keeps (h : RingAt E TR sz w r pb xs) (k : Keeps bs w w') (hr : r ∉ bs) (hp : pb ∉ bs) : RingAt E TR sz w' r pb xs := by
  obtain ⟨N, C, frm, cells, h⟩ := h
  exact ⟨N, C, frm, cells, h.keeps k hr hp⟩
theorem RingAt.lt (h : RingAt E TR sz w r pb xs) : r < w.heap.size ∧ pb < w.heap.size := by
  obtain ⟨N, C, frm, cells, h⟩ := h
  exact ⟨h.ring.lt, h.places.lt⟩
theorem RingIs.c0 (h : RingIs E TR sz w r pb N C frm cells xs) : w.cell? ⟨r, 0, none⟩ = some (.slice (some ⟨pb, 0, none⟩) N C) := (h.ring.cell 0).trans rfl
theorem RingIs.c1 (h : RingIs E TR sz w r pb N C frm cells xs) : w.cell? ⟨r, 1, none⟩ = some (.int .i64 frm) := (h.ring.cell 1).trans rfl
theorem RingIs.c2 (h : RingIs E TR sz w r pb N C frm cells xs) : w.cell? ⟨r, 2, none⟩ = some (.int .i64 xs.length) := (h.ring.cell 2).trans rfl
theorem RingAt.c2 (h : RingAt E TR sz w r pb xs) : w.cell? ⟨r, 2, none⟩ = some (.int .i64 xs.length) := by
  obtain ⟨N, C, frm, cells, h⟩ := h
  exact h.c2
theorem RingIs.at_ (h : RingIs E TR sz w r pb N C frm cells xs) {i : Nat} {x : List Value} (hx : xs[i]? = some x) {j : Nat} (hj : j < sz) : w.cell? ⟨pb, YtjnojomfaikfjaaR.slot frm N i * sz + j, none⟩ = x[j]? :=
  (h.places.cell _).trans ((h.rb.at_ i x hx).2 j hj)
end
end Go.Proofs.Ytjnojomfaikfjaa
