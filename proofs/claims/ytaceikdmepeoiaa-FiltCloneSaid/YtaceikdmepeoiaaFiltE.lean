/- filt.Filter: Clone. The reference's sum. -/
import Derived.Test.YtaceikdmepeoiaaFiltD
namespace Go.Proofs.Ytaceikdmepeoiaa
set_option linter.unusedSimpArgs false
set_option linter.unusedVariables false
open Go.RowKit Go.Proofs.YtaceikdmepeoiaaW.PrintLast
theorem fclone_nil (w : World) : Calls Try.prog 16 #[.pointer none] w fun e w' => e = .returned (.pointer none) ∧ w' = w := by
  go_enter Try.func16, Try.ntmps16
  go_wp2
  go_ret
  exact ⟨rfl, rfl⟩
set_option maxHeartbeats 1000000 in
theorem fclone (f r pb : Nat) (s : Flt) (w : World) (h : FiltAt w f r pb s) :
    Calls Try.prog 16 #[.pointer (some ⟨f, 0, none⟩)] w fun e w' => ∃ f' r' pb', e = .returned (.pointer (some ⟨f', 0, none⟩)) ∧ FiltAt w' f' r' pb' s ∧ w.heap.size ≤ f' ∧ w.heap.size ≤ r' ∧ w.heap.size ≤ pb' ∧ Keeps [] w w' := by
  have g0 := h.c0
  have g1 := h.c1
  have g2 := h.c2
  have g3 := h.c3
  have hf := h.blk.lt
  have h1 := h.keeps ((Keeps.refl [] w).alloc (.cells #[.pointer (some ⟨r, 0, none⟩), .int .u64 s.W, .int .u64 s.now, .bool s.least] 148)) (by simp) (by simp) (by simp)
  have hcl := Rd.clone r pb _ _ h1.row
  have B := Blk.new w 148 [.pointer (some ⟨r, 0, none⟩), .int .u64 s.W, .int .u64 s.now, .bool s.least]
  go_enter Try.func16, Try.ntmps16
  go_wp2_with (fail)
  refine hcl.mono ?_
  rintro e w1 ⟨r', pb', rfl, hrow, hr', hp', hk⟩
  have B1 := B.keeps hk (by simp)
  have x0 := B1.cell 0
  have y0 := B1.frozen 0
  simp only [List.getElem?_cons_zero] at x0
  simp only [World.size_alloc] at hr' hp'
  have K1 : Keeps [] w w1 := ((Keeps.refl [] w).alloc _).trans hk (by simp)
  go_wp2
  go_ret
  have K2 : Keeps [w.heap.size] w1 (w1.setCell ⟨w.heap.size, 0, none⟩ (.pointer (some ⟨r', 0, none⟩))) := (Keeps.refl _ _).set_ (.inl (by simp)) _
  exact ⟨w.heap.size, r', pb', rfl, ⟨(by (repeat (first | with_reducible exact B1 | with_reducible apply Blk.drew | with_reducible apply Blk.drewN | with_reducible refine Blk.newAt (by simp; done) | with_reducible apply Blk.alloc | with_reducible apply Blk.set2 | with_reducible apply Blk.far)); (all_goals (first | rfl | assumption | (simp; done) | (simp; omega) | omega))), hrow.keeps K2 (by simp; omega) (by simp; omega)⟩, Nat.le_refl _, by omega, by omega, K1.trans K2 (by simp)⟩
theorem rsub (b : Int) (hb : U64 b) : IntKind.u64.wrap (18446744073709551615 - b) = 18446744073709551615 - b := by
  obtain ⟨h0, h1⟩ := hb
  simp [IntKind.wrap, IntKind.signed, IntKind.bits]; omega
theorem ref_add (a b : Int) (w : World) (ha : U64 a) (hb : U64 b) : Calls Try.prog 35 #[.int .u64 a, .int .u64 b] w fun e w' => e = .returned (.int .u64 (sat (a + b))) ∧ w' = w := by
  have k1 := rsub b hb
  by_cases h : 18446744073709551615 - b < a
  · have hs : Hid (sat (a + b) = 18446744073709551615) := by show _ = _; unfold sat M64; rw [if_neg (by omega)]
    go_enter Try.func35, Try.ntmps35
    go_wp2
    go_ret
    exact ⟨by rw [hs.out]; rfl, rfl⟩
  · have h' : a ≤ 18446744073709551615 - b := by omega
    have hs : Hid (sat (a + b) = a + b) := by show _ = _; unfold sat M64; rw [if_pos (by omega)]
    have k2 : IntKind.u64.wrap (a + b) = a + b := by
      obtain ⟨h0, h1⟩ := hb
      obtain ⟨h2, h3⟩ := ha
      simp [IntKind.wrap, IntKind.signed, IntKind.bits]; omega
    clear h
    go_enter Try.func35, Try.ntmps35
    go_wp2
    go_ret
    exact ⟨by rw [hs.out]; rfl, rfl⟩
end Go.Proofs.Ytaceikdmepeoiaa
