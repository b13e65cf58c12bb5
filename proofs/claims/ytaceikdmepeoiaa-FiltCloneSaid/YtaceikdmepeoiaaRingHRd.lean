/- The walks of ring.Ring[filt.reading]: New, Clone. -/
import Derived.Test.YtaceikdmepeoiaaRingGRd
namespace Go.Proofs.Ytaceikdmepeoiaa
set_option linter.unusedSimpArgs false
set_option linter.unusedVariables false
open Go.RowKit Go.Proofs.YtaceikdmepeoiaaW.PrintLast
namespace Rd
set_option maxHeartbeats 1000000 in
set_option maxRecDepth 100000 in
theorem new (w : World) : Calls Try.prog 151 #[.slice none 0 0] w fun e w' => ∃ r pb, e = .returned (.pointer (some ⟨r, 0, none⟩)) ∧ At w' r pb [] ∧ w.heap.size ≤ r ∧ w.heap.size ≤ pb ∧ Keeps [] w w' := by
  have hmk : ∀ W : World, (Instr.makeSlice 227 (.int .i64 4) (.int .i64 4)).run Try.prog W = .ok (.slice (some ⟨W.heap.size, 0, none⟩) 4 4) (W.alloc (.cells #[.int .u64 0, .int .u64 0, .int .u64 0, .int .u64 0, .int .u64 0, .int .u64 0, .int .u64 0, .int .u64 0] 151)) := fun _ => by kernel_rfl
  have hcp : ∀ (W : World) (a : Addr) (dl dc : Nat), (Builtin.copy_ #[227, 227] 3 #[.slice (some a) dl dc, .slice none 0 0]).run Try.prog W = .ok (goInt 0) W := fun W a dl dc => run_copy_nil Try.prog W 227 227 3 151 a dl dc Try.underlying227 (by kernel_rfl)
  go_enter Try.func151, Try.ntmps151
  go_wp2
  go_ret
  refine ⟨w.heap.size + 1, w.heap.size, rfl, ⟨4, 4, 0, [.int .u64 0, .int .u64 0, .int .u64 0, .int .u64 0, .int .u64 0, .int .u64 0, .int .u64 0, .int .u64 0], ?_⟩, by omega, by omega, ?_⟩
  · have X := Blk.new w 151 [.int .u64 0, .int .u64 0, .int .u64 0, .int .u64 0, .int .u64 0, .int .u64 0, .int .u64 0, .int .u64 0]
    have Y := Blk.newAt (w := w.alloc (.cells #[.int .u64 0, .int .u64 0, .int .u64 0, .int .u64 0, .int .u64 0, .int .u64 0, .int .u64 0, .int .u64 0] 151)) (g := w.heap.size + 1) (t := 230) (cs := [.slice (some ⟨w.heap.size, 0, none⟩) 4 4, .int .i64 0, .int .i64 0]) (by simp)
    exact ⟨Y, (by (repeat (first | with_reducible exact X | with_reducible apply Blk.drew | with_reducible apply Blk.drewN | with_reducible refine Blk.newAt (by simp; done) | with_reducible apply Blk.alloc | with_reducible apply Blk.set2 | with_reducible apply Blk.far)); (all_goals (first | rfl | assumption | (simp; done) | (simp; omega) | omega))), YtaceikdmepeoiaaR.RB.new _ _ _ (by simp) (by omega), by omega, by simp, by omega, by omega, by simp [Value.oneCell']⟩
  · have K0 := Keeps.refl [] w
    exact (by repeat (first | with_reducible exact K0 | refine Keeps.drew ?_ | refine Keeps.drewN ?_ _ | refine Keeps.alloc ?_ _ | refine Keeps.set_ ?_ (by first | (left; simp; done) | (right; simp; done) | (right; simp; omega) | (right; omega)) _))
set_option maxHeartbeats 1000000 in
set_option maxRecDepth 100000 in
theorem sclone (pb N C : Nat) (cells : List Value) (w : World) (P : Blk w pb 151 cells) (hc : cells.length = C * 2) (hN : N ≤ C) (h4 : 0 < N) (hm : N ≤ 4294967296) (one : ∀ v ∈ cells.take (N * 2), v.oneCell' = true) :
    Calls Try.prog 152 #[.slice (some ⟨pb, 0, none⟩) N C] w fun e w' => ∃ b C' cells', e = .returned (.slice (some ⟨b, 0, none⟩) N C') ∧ Blk w' b 151 cells' ∧ cells'.length = C' * 2 ∧ N ≤ C' ∧
      cells'.take (N * 2) = cells.take (N * 2) ∧ w.heap.size ≤ b ∧ Keeps [] w w' := by
  obtain ⟨i0, hi0, hii⟩ := Option.map_eq_some_iff.1 info_E
  simp only [Prod.mk.injEq] at hii
  obtain ⟨hi1, hi2, hi3⟩ := hii
  have hl : (cells.take (N * 2)).length = N * 2 := by rw [List.length_take, hc]; exact Nat.min_eq_left (Nat.mul_le_mul_right _ hN)
  have hnews : ∀ (W : World) (o : Obj), W = w → ∀ j u, (cells.take (N * 2))[j]? = some u → (W.alloc o).cell? ((⟨pb, 0, none⟩ : Addr).add j) = some u := by
    rintro W o rfl j u hj
    have e1 : (⟨pb, 0, none⟩ : Addr).add j = ⟨pb, j, none⟩ := by unfold Addr.add; split <;> simp_all
    have hlt : j < N * 2 := by rw [← hl]; exact (List.getElem?_eq_some_iff.1 hj).1
    rw [e1, (P.alloc o).cell, ← hj, List.getElem?_take_of_lt hlt]
  have heq : ∀ W : World, (binOp .eql 227 (.slice (some ⟨pb, 0, none⟩) N C) (.slice none 0 0)).run Try.prog W = .ok (.bool false) W := fun W => Lib.run_eql_slice_nil W 227 151 (some ⟨pb, 0, none⟩) N C 0 0 Try.underlying227
  obtain ⟨X, eX⟩ : ∃ X, Hid (X = cells.take (N * 2)) := ⟨_, rfl⟩
  have hl' : Hid (X.length = N * 2) := by show _ = _; rw [eX.out]; exact hl
  have one' : ∀ v ∈ X, v.oneCell' = true := by rw [eX.out]; exact one
  have hn' : ∀ j u, X[j]? = some u → (w.alloc (.cells #[] 151)).cell? ((⟨pb, 0, none⟩ : Addr).add j) = some u := by rw [eX.out]; exact hnews w _ rfl
  have hown : (w.alloc (.cells #[] 151)).ownsRow w.heap.size 151 2 (.slice (some ⟨w.heap.size, 0, none⟩) 0 0) 0 [] :=
    ⟨by simp, .inr ⟨w.heap.size, 0, #[], rfl, Nat.le_refl _, heap_alloc_new w _, Nat.le_refl _, by unfold maxLen; omega, by simp, by simp⟩⟩
  clear hnews hl one
  go_enter Try.func152, Try.ntmps152
  go_wp2_with (at_builtin; refine wpList_append_own _ rfl _ _ 227 rfl w.heap.size 151 i0 _ 2 16 Try.underlying227 hi0 hi1 hi2 hi3 rfl (by decide) _ 0 [] rfl hown ⟨pb, 0, none⟩ N C X rfl hl'.out hn' one' ?c3 ?c4 ?c5 ?_)
  case c3 => unfold maxLen; omega
  case c4 => omega
  case c5 => simp
  intro v' w1 hown' hgrow _
  obtain ⟨g, cap, cur, hv, hg, hh, hncap, _, hsz, htk⟩ : ∃ g cap cur, v' = .slice (some ⟨g, 0, none⟩) N cap ∧ w.heap.size ≤ g ∧ w1.heap[g]? = some (.cells cur 151 (0, 0)) ∧ N ≤ cap ∧ cap ≤ maxLen ∧ cur.size = cap * 2 ∧ cur.toList.take (N * 2) = X := by
    rcases hown'.2 with ⟨_, h0⟩ | h
    · omega
    · exact h
  have K1 : Keeps [] w w1 := ((Keeps.refl [] w).alloc _).trans (Keeps.of_grown (bs := [w.heap.size]) hgrow (by intro k hk; simp [Value.ownBlock] at hk; subst hk; exact .inl (by simp))) (by simp)
  have hB : Hid (Blk w1 g 151 cur.toList) := by show Blk _ _ _ _; unfold Blk; simpa using hh
  have hT : Hid (cur.toList.take (N * 2) = cells.take (N * 2)) := by show _ = _; rw [htk, eX.out]
  have hS : Hid (cur.toList.length = cap * 2) := by show _ = _; simpa using hsz
  rw [hv]
  clear hh htk hsz hown hown' hn' hgrow hv
  go_wp2
  go_ret
  exact ⟨g, cap, cur.toList, rfl, hB.out, hS.out, hncap, hT.out, hg, K1⟩
set_option maxHeartbeats 1000000 in
set_option maxRecDepth 100000 in
theorem clone (r pb : Nat) (xs : List (List Value)) (w : World) (h : At w r pb xs) :
    Calls Try.prog 77 #[.pointer (some ⟨r, 0, none⟩)] w fun e w' => ∃ r' pb', e = .returned (.pointer (some ⟨r', 0, none⟩)) ∧ At w' r' pb' xs ∧ w.heap.size ≤ r' ∧ w.heap.size ≤ pb' ∧ Keeps [] w w' := by
  obtain ⟨N, C, frm, cells, h⟩ := h
  have hr := h.ring.lt
  have hp := h.places.lt
  have f2 := h.four
  have g0 := h.c0
  have g1 := h.c1
  have g2 := h.c2
  go_enter Try.func77, Try.ntmps77
  go_wp2_with (fail)
  refine start_ (n := 16) (S := fun w' => w'.cell? ⟨r, 0, none⟩ = some (.slice (some ⟨pb, 0, none⟩) N C) ∧ w'.cell? ⟨r, 1, none⟩ = some (.int .i64 frm) ∧ w'.cell? ⟨r, 2, none⟩ = some (.int .i64 xs.length)) (ds := [14]) #[false, false, false, false, false, false, false, false, false, false, false, false, false, false, false, false] (by kernel_rfl) rfl rfl ⟨g0, g1, g2⟩ (fun hHeld => ?_)
  refine pure_ (i := 0) (N := some 5) (v := ?_) (a' := ?_) #[true, false, false, false, false, false, false, false, false, false, false, false, false, false, false, false] rfl rfl (by kernel_rfl) (fun _ _ _ h => h) (Or.inl ⟨by rfl, ?_⟩) ?_ ?_
  rotate_left
  · intro w'
    go_simp
    with_reducible rfl
  rotate_left
  · simp only [Act.put, List.setIfInBounds_toArray, List.set_cons_zero, List.set_cons_succ, i64_w, i32_w]
    rfl
  refine pure_ (i := 1) (N := some 6) (v := ?_) (a' := ?_) #[true, true, false, false, false, false, false, false, false, false, false, false, false, false, false, false] rfl rfl (by kernel_rfl) (fun _ _ _ h => h) (Or.inl ⟨by rfl, ?_⟩) ?_ ?_
  rotate_left
  · intro w'
    go_simp
    with_reducible rfl
  rotate_left
  · simp only [Act.put, List.setIfInBounds_toArray, List.set_cons_zero, List.set_cons_succ, i64_w, i32_w]
    rfl
  refine pure_ (i := 2) (N := some 7) (v := ?_) (a' := ?_) #[true, true, true, false, false, false, false, false, false, false, false, false, false, false, false, false] rfl rfl (by kernel_rfl) (fun _ _ _ h => h) (Or.inl ⟨by rfl, ?_⟩) ?_ ?_
  rotate_left
  · intro w'
    go_simp
    with_reducible rfl
  rotate_left
  · simp only [Act.put, List.setIfInBounds_toArray, List.set_cons_zero, List.set_cons_succ, i64_w, i32_w]
    rfl
  refine pure_ (i := 5) (N := some 10) (v := ?_) (a' := ?_) #[true, true, true, false, false, true, false, false, false, false, false, false, false, false, false, false] rfl rfl (by kernel_rfl) (fun _ _ _ h => h) (Or.inl ⟨by rfl, ?_⟩) ?_ ?_
  rotate_left
  · intro w'
    go_simp
    with_reducible rfl
  rotate_left
  · simp only [Act.put, List.setIfInBounds_toArray, List.set_cons_zero, List.set_cons_succ, i64_w, i32_w]
    rfl
  refine pure_ (i := 6) (N := some 11) (v := ?_) (a' := ?_) #[true, true, true, false, false, true, true, false, false, false, false, false, false, false, false, false] rfl rfl (by kernel_rfl) (fun _ _ _ h => h) (Or.inl ⟨by rfl, ?_⟩) ?_ ?_
  rotate_left
  · intro w'
    go_simp
    with_reducible rfl
  rotate_left
  · simp only [Act.put, List.setIfInBounds_toArray, List.set_cons_zero, List.set_cons_succ, i64_w, i32_w]
    rfl
  refine pure_ (i := 7) (N := some 12) (v := ?_) (a' := ?_) #[true, true, true, false, false, true, true, true, false, false, false, false, false, false, false, false] rfl rfl (by kernel_rfl) (fun _ _ _ h => h) (Or.inl ⟨by rfl, ?_⟩) ?_ ?_
  rotate_left
  · intro w'
    go_simp
    with_reducible rfl
  rotate_left
  · simp only [Act.put, List.setIfInBounds_toArray, List.set_cons_zero, List.set_cons_succ, i64_w, i32_w]
    rfl
  refine pure_ (i := 9) (N := some 14) (v := ?_) (a' := ?_) #[true, true, true, false, false, true, true, true, false, true, false, false, false, false, false, false] rfl rfl (by kernel_rfl) (fun _ _ _ h => h) (Or.inl ⟨by rfl, ?_⟩) ?_ ?_
  rotate_left
  · intro w'
    go_simp
    with_reducible rfl
  rotate_left
  · simp only [Act.put, List.setIfInBounds_toArray, List.set_cons_zero, List.set_cons_succ, i64_w, i32_w]
    rfl
  refine pure_ (i := 10) (N := some 15) (v := ?_) (a' := ?_) #[true, true, true, false, false, true, true, true, false, true, true, false, false, false, false, false] rfl rfl (by kernel_rfl) (fun _ _ _ h => h) (Or.inl ⟨by rfl, ?_⟩) ?_ ?_
  rotate_left
  · intro w'
    go_simp
    with_reducible rfl
  rotate_left
  · simp only [Act.put, List.setIfInBounds_toArray, List.set_cons_zero, List.set_cons_succ, i64_w, i32_w]
    rfl
  refine pure_ (i := 11) (N := some 16) (v := ?_) (a' := ?_) #[true, true, true, false, false, true, true, true, false, true, true, true, false, false, false, false] rfl rfl (by kernel_rfl) (fun _ _ _ h => h) (Or.inl ⟨by rfl, ?_⟩) ?_ ?_
  rotate_left
  · intro w'
    go_simp
    with_reducible rfl
  rotate_left
  · simp only [Act.put, List.setIfInBounds_toArray, List.set_cons_zero, List.set_cons_succ, i64_w, i32_w]
    rfl
  refine take_ (i := 3) (N := some 8) (v := ?_) (a' := ?_) #[true, true, true, true, false, true, true, true, false, true, true, true, false, false, false, false] rfl rfl (by kernel_rfl) (fun _ _ _ h => h) (Or.inl ⟨by rfl, ?_⟩) hHeld ?_ ?_
  rotate_left
  · rintro w' ⟨s0, s1, s2⟩
    go_simp
    with_reducible rfl
  rotate_left
  · simp only [Act.put, List.setIfInBounds_toArray, List.set_cons_zero, List.set_cons_succ, i64_w, i32_w]
    rfl
  refine take_ (i := 8) (N := some 13) (v := ?_) (a' := ?_) #[true, true, true, true, false, true, true, true, true, true, true, true, false, false, false, false] rfl rfl (by kernel_rfl) (fun _ _ _ h => h) (Or.inl ⟨by rfl, ?_⟩) hHeld ?_ ?_
  rotate_left
  · rintro w' ⟨s0, s1, s2⟩
    go_simp
    with_reducible rfl
  rotate_left
  · simp only [Act.put, List.setIfInBounds_toArray, List.set_cons_zero, List.set_cons_succ, i64_w, i32_w]
    rfl
  refine take_ (i := 12) (N := some 17) (v := ?_) (a' := ?_) #[true, true, true, true, false, true, true, true, true, true, true, true, true, false, false, false] rfl rfl (by kernel_rfl) (fun _ _ _ h => h) (Or.inl ⟨by rfl, ?_⟩) hHeld ?_ ?_
  rotate_left
  · rintro w' ⟨s0, s1, s2⟩
    go_simp
    with_reducible rfl
  rotate_left
  · simp only [Act.put, List.setIfInBounds_toArray, List.set_cons_zero, List.set_cons_succ, i64_w, i32_w]
    rfl
  refine one_ (i := 4) (N := some 9) #[true, true, true, true, true, true, true, true, true, true, true, true, true, false, false, false] rfl rfl (by kernel_rfl) (by decide) (fun K hK => ?_)
  refine goes_ Try.func152 (by kernel_rfl) rfl #[.slice (some ⟨pb, 0, none⟩) N C] (by rfl) rfl rfl (by simp only [List.map_toArray, List.map_cons, List.map_nil]; rfl) ?_
  with_reducible refine (sclone pb N C cells w.drew h.places.drew h.len h.nc (by omega) h.most h.one).mono ?_
  rintro e w3 ⟨b, C', cells', rfl, B3, hl3, hn3, ht3, hb3, K3⟩
  refine ⟨_, rfl, ?_⟩
  refine hK.out _ _ ⟨((K3.cell (p := ⟨r, 0, none⟩) hr (by simp)).trans g0), ((K3.cell (p := ⟨r, 1, none⟩) hr (by simp)).trans g1), ((K3.cell (p := ⟨r, 2, none⟩) hr (by simp)).trans g2)⟩ (fun hHeld => ?_)
  clear hK K
  refine norm_ (a' := ?_) ?_ ?_
  rotate_left
  · show Act.put _ (some 9) _ = _
    simp only [Act.put, List.setIfInBounds_toArray, List.set_cons_zero, List.set_cons_succ, i64_w, i32_w]
    rfl
  refine pure_ (i := 13) (N := some 18) (v := ?_) (a' := ?_) #[true, true, true, true, true, true, true, true, true, true, true, true, true, true, false, false] rfl rfl (by kernel_rfl) (fun _ _ _ h => h) (Or.inl ⟨by rfl, ?_⟩) ?_ ?_
  rotate_left
  · intro w'
    go_simp
    with_reducible rfl
  rotate_left
  · simp only [Act.put, List.setIfInBounds_toArray, List.set_cons_zero, List.set_cons_succ, i64_w, i32_w]
    rfl
  refine last_ (i := 14) (N := some 19) #[true, true, true, true, true, true, true, true, true, true, true, true, true, true, true, false] rfl rfl (by kernel_rfl) (by decide) (fun K hK => ?_)
  refine value_ (w1 := ?_) (v := ?_) (by rfl) rfl ?_ ?_
  rotate_left 2
  · go_simp
    constructor
    · rfl
    · rfl
  refine hK.out _ _ ?_
  clear hK K
  refine norm_ (a' := ?_) ?_ ?_
  rotate_left
  · show Act.put _ (some 19) _ = _
    simp only [Act.put, List.setIfInBounds_toArray, List.set_cons_zero, List.set_cons_succ, i64_w, i32_w]
    rfl
  refine pure_ (i := 15) (N := some 2) (v := ?_) (a' := ?_) #[true, true, true, true, true, true, true, true, true, true, true, true, true, true, true, true] rfl rfl (by kernel_rfl) (fun _ _ _ h => h) (Or.inl ⟨by rfl, ?_⟩) ?_ ?_
  rotate_left
  · intro w'
    go_simp
    with_reducible rfl
  rotate_left
  · simp only [Act.put, List.setIfInBounds_toArray, List.set_cons_zero, List.set_cons_succ, i64_w, i32_w]
    rfl
  refine done_ (by kernel_rfl) ?_
  go_wp2
  go_ret
  have K3' : Keeps [] w w3 := ((Keeps.refl [] w).drew).trans K3 (by simp)
  have hs3 := K3'.size
  have hb3' : w.heap.size ≤ b := hb3
  exact ⟨w3.heap.size, b, rfl, ⟨N, C', frm, cells', Blk.new _ _ [.slice (some ⟨b, 0, none⟩) N C', .int .i64 frm, .int .i64 xs.length], B3.alloc _, h.rb.congr ht3 (by rw [hl3]; exact Nat.mul_le_mul_right _ hn3), hn3, hl3, f2, h.most, by rw [ht3]; exact h.one⟩, hs3, hb3', K3'.alloc _⟩
theorem clone_nil (w : World) : Calls Try.prog 77 #[.pointer none] w fun e w' => e = .returned (.pointer none) ∧ w' = w := by
  go_enter Try.func77, Try.ntmps77
  go_wp2
  go_ret
  exact ⟨rfl, rfl⟩
end Rd
end Go.Proofs.Ytaceikdmepeoiaa
