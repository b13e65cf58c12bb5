/- queue.Queue: what it is in memory; New, Bytes, Dropped. -/
import Derived.Test.YtjnojomfaikfjaaFixC
import Derived.Test.YtjnojomfaikfjaaRingNPk
import Derived.Test.YtjnojomfaikfjaaLinkP
namespace Go.Proofs.Ytjnojomfaikfjaa
set_option linter.unusedSimpArgs false
set_option linter.unusedVariables false
open Go.RowKit Go.Proofs.YtjnojomfaikfjaaW.PrintLast
def Pkt.cells (p : Pkt) : List Value := [.int .u64 p.n, .int .u64 p.size, .int .u64 p.sent, .int .u64 p.first, .int .u64 p.del, .int .u64 p.at_, .bool p.lim]
def Pkt.val (p : Pkt) : Value := .agg #[.int .u64 p.n, .int .u64 p.size, .int .u64 p.sent, .int .u64 p.first, .int .u64 p.del, .int .u64 p.at_, .bool p.lim]
structure QueAt (w : World) (q r pb : Nat) (s : Que) : Prop where
  blk : Blk w q 162 [.pointer (some ⟨r, 0, none⟩), .int .u64 s.room, .int .u64 s.bytes, .int .u64 s.dropped, .int .u64 s.gone]
  row : Pk.At w r pb (s.xs.map Pkt.cells)
section
variable {w w' : World} {q r pb : Nat} {s : Que} {bs : List Nat}
theorem QueAt.keeps (h : QueAt w q r pb s) (k : Keeps bs w w') (hf : q ∉ bs) (hr : r ∉ bs) (hp : pb ∉ bs) : QueAt w' q r pb s := ⟨h.blk.keeps k hf, h.row.keeps k hr hp⟩
theorem QueAt.ne1 (h : QueAt w q r pb s) : q ≠ r := by
  obtain ⟨_, _, _, _, h'⟩ := h.row
  exact h.blk.ne_ h'.ring (by decide)
theorem QueAt.ne2 (h : QueAt w q r pb s) : q ≠ pb := by
  obtain ⟨_, _, _, _, h'⟩ := h.row
  exact h.blk.ne_ h'.places (by decide)
theorem QueAt.c0 (h : QueAt w q r pb s) : w.cell? ⟨q, 0, none⟩ = some (.pointer (some ⟨r, 0, none⟩)) := (h.blk.cell 0).trans rfl
theorem QueAt.c1 (h : QueAt w q r pb s) : w.cell? ⟨q, 1, none⟩ = some (.int .u64 s.room) := (h.blk.cell 1).trans rfl
theorem QueAt.c2 (h : QueAt w q r pb s) : w.cell? ⟨q, 2, none⟩ = some (.int .u64 s.bytes) := (h.blk.cell 2).trans rfl
theorem QueAt.c3 (h : QueAt w q r pb s) : w.cell? ⟨q, 3, none⟩ = some (.int .u64 s.dropped) := (h.blk.cell 3).trans rfl
theorem QueAt.c4 (h : QueAt w q r pb s) : w.cell? ⟨q, 4, none⟩ = some (.int .u64 s.gone) := (h.blk.cell 4).trans rfl
end
theorem que_new (room : Int) (w : World) : Calls Try.prog 51 #[.int .u64 room] w fun e w' => ∃ q r pb, e = .returned (.pointer (some ⟨q, 0, none⟩)) ∧ QueAt w' q r pb ⟨room, 0, 0, 0, []⟩ ∧ w.heap.size ≤ q ∧ w.heap.size ≤ r ∧ w.heap.size ≤ pb ∧ Keeps [] w w' := by
  go_enter Try.func51, Try.ntmps51
  go_wp2_with (fail)
  refine (Pk.new _).mono ?_
  rintro e w1 ⟨r, pb, rfl, hr, h1, h2, hk⟩
  go_wp2
  go_ret
  have hs := hk.size
  exact ⟨w1.heap.size, r, pb, rfl, ⟨Blk.new w1 _ [.pointer (some ⟨r, 0, none⟩), .int .u64 room, .int .u64 0, .int .u64 0, .int .u64 0], hr.keeps ((Keeps.refl [] w1).alloc _) (by simp) (by simp)⟩, hs, h1, h2, hk.alloc _⟩
theorem que_bytes (q r pb : Nat) (s : Que) (w : World) (h : QueAt w q r pb s) : Calls Try.prog 61 #[.pointer (some ⟨q, 0, none⟩)] w fun e w' => e = .returned (.int .u64 s.bytes) ∧ w' = w := by
  have g2 := h.c2
  go_enter Try.func61, Try.ntmps61
  go_wp2
  go_ret
  exact ⟨rfl, rfl⟩
theorem que_dropped (q r pb : Nat) (s : Que) (w : World) (h : QueAt w q r pb s) : Calls Try.prog 60 #[.pointer (some ⟨q, 0, none⟩)] w fun e w' => e = .returned (.tuple #[.int .u64 s.dropped, .int .u64 s.gone]) ∧ Keeps [] w w' := by
  have g3 := h.c3
  have g4 := h.c4
  go_enter Try.func60, Try.ntmps60
  go_wp2_with (fail)
  refine start_ (n := 10) (S := fun w' => w'.cell? ⟨q, 3, none⟩ = some (.int .u64 s.dropped) ∧ w'.cell? ⟨q, 4, none⟩ = some (.int .u64 s.gone)) (ds := []) #[false, false, false, false, false, false, false, false, false, false] (by kernel_rfl) rfl rfl ⟨g3, g4⟩ (fun hHeld => ?_)
  refine pure_ (i := 0) (N := some 6) (v := ?_) (a' := ?_) #[true, false, false, false, false, false, false, false, false, false] rfl rfl (by kernel_rfl) (fun _ _ _ h => h) (Or.inl ⟨by rfl, ?_⟩) ?_ ?_
  rotate_left
  · intro w'
    go_simp
    with_reducible rfl
  rotate_left
  · simp only [Act.put, List.setIfInBounds_toArray, List.set_cons_zero, List.set_cons_succ, i64_w, i32_w]
    rfl
  refine pure_ (i := 1) (N := some 7) (v := ?_) (a' := ?_) #[true, true, false, false, false, false, false, false, false, false] rfl rfl (by kernel_rfl) (fun _ _ _ h => h) (Or.inl ⟨by rfl, ?_⟩) ?_ ?_
  rotate_left
  · intro w'
    go_simp
    with_reducible rfl
  rotate_left
  · simp only [Act.put, List.setIfInBounds_toArray, List.set_cons_zero, List.set_cons_succ, i64_w, i32_w]
    rfl
  refine pure_ (i := 2) (N := some 8) (v := ?_) (a' := ?_) #[true, true, true, false, false, false, false, false, false, false] rfl rfl (by kernel_rfl) (fun _ _ _ h => h) (Or.inl ⟨by rfl, ?_⟩) ?_ ?_
  rotate_left
  · intro w'
    go_simp
    with_reducible rfl
  rotate_left
  · simp only [Act.put, List.setIfInBounds_toArray, List.set_cons_zero, List.set_cons_succ, i64_w, i32_w]
    rfl
  refine pure_ (i := 4) (N := some 10) (v := ?_) (a' := ?_) #[true, true, true, false, true, false, false, false, false, false] rfl rfl (by kernel_rfl) (fun _ _ _ h => h) (Or.inl ⟨by rfl, ?_⟩) ?_ ?_
  rotate_left
  · intro w'
    go_simp
    with_reducible rfl
  rotate_left
  · simp only [Act.put, List.setIfInBounds_toArray, List.set_cons_zero, List.set_cons_succ, i64_w, i32_w]
    rfl
  refine pure_ (i := 5) (N := some 11) (v := ?_) (a' := ?_) #[true, true, true, false, true, true, false, false, false, false] rfl rfl (by kernel_rfl) (fun _ _ _ h => h) (Or.inl ⟨by rfl, ?_⟩) ?_ ?_
  rotate_left
  · intro w'
    go_simp
    with_reducible rfl
  rotate_left
  · simp only [Act.put, List.setIfInBounds_toArray, List.set_cons_zero, List.set_cons_succ, i64_w, i32_w]
    rfl
  refine pure_ (i := 6) (N := some 12) (v := ?_) (a' := ?_) #[true, true, true, false, true, true, true, false, false, false] rfl rfl (by kernel_rfl) (fun _ _ _ h => h) (Or.inl ⟨by rfl, ?_⟩) ?_ ?_
  rotate_left
  · intro w'
    go_simp
    with_reducible rfl
  rotate_left
  · simp only [Act.put, List.setIfInBounds_toArray, List.set_cons_zero, List.set_cons_succ, i64_w, i32_w]
    rfl
  refine take_ (i := 3) (N := some 9) (v := ?_) (a' := ?_) #[true, true, true, true, true, true, true, false, false, false] rfl rfl (by kernel_rfl) (fun _ _ _ h => h) (Or.inl ⟨by rfl, ?_⟩) hHeld ?_ ?_
  rotate_left
  · rintro w' ⟨s0, s1⟩
    go_simp
    with_reducible rfl
  rotate_left
  · simp only [Act.put, List.setIfInBounds_toArray, List.set_cons_zero, List.set_cons_succ, i64_w, i32_w]
    rfl
  refine pure_ (i := 8) (N := some 2) (v := ?_) (a' := ?_) #[true, true, true, true, true, true, true, false, true, false] rfl rfl (by kernel_rfl) (fun _ _ _ h => h) (Or.inl ⟨by rfl, ?_⟩) ?_ ?_
  rotate_left
  · intro w'
    go_simp
    with_reducible rfl
  rotate_left
  · simp only [Act.put, List.setIfInBounds_toArray, List.set_cons_zero, List.set_cons_succ, i64_w, i32_w]
    rfl
  refine take_ (i := 7) (N := some 13) (v := ?_) (a' := ?_) #[true, true, true, true, true, true, true, true, true, false] rfl rfl (by kernel_rfl) (fun _ _ _ h => h) (Or.inl ⟨by rfl, ?_⟩) hHeld ?_ ?_
  rotate_left
  · rintro w' ⟨s0, s1⟩
    go_simp
    with_reducible rfl
  rotate_left
  · simp only [Act.put, List.setIfInBounds_toArray, List.set_cons_zero, List.set_cons_succ, i64_w, i32_w]
    rfl
  refine pure_ (i := 9) (N := some 3) (v := ?_) (a' := ?_) #[true, true, true, true, true, true, true, true, true, true] rfl rfl (by kernel_rfl) (fun _ _ _ h => h) (Or.inl ⟨by rfl, ?_⟩) ?_ ?_
  rotate_left
  · intro w'
    go_simp
    with_reducible rfl
  rotate_left
  · simp only [Act.put, List.setIfInBounds_toArray, List.set_cons_zero, List.set_cons_succ, i64_w, i32_w]
    rfl
  refine done_ (by kernel_rfl) ?_
  go_wp2
  go_ret2
  exact ⟨rfl, (Keeps.refl [] w).drew⟩
end Go.Proofs.Ytjnojomfaikfjaa
