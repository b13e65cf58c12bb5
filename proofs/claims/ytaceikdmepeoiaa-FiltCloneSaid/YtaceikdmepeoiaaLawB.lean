/- goitlaw05: alive, FiltClone. -/
import Derived.Test.YtaceikdmepeoiaaLawA
namespace Go.Proofs.Ytaceikdmepeoiaa
set_option linter.unusedSimpArgs false
set_option linter.unusedVariables false
open Go.RowKit Go.Proofs.YtaceikdmepeoiaaW.PrintLast
theorem keeps_below {w w1 w2 : World} (k : Keeps [] w w1) (b : Below w.heap.size w1 w2) : Keeps [] w w2 :=
  ⟨b.os.trans k.os, b.tape.trans k.tape, b.output.trans k.output, Nat.le_trans k.size b.size, fun i hi _ => (b.block i hi).trans (k.block i hi (by simp))⟩
set_option maxHeartbeats 1000000 in
set_option maxRecDepth 100000 in
theorem alive_calls (w : World) : Calls Try.prog 13 #[] w fun e w' => e = .returned (.bool true) ∧ Keeps [] w w' := by
  have u : ∀ n : Int, 0 ≤ n → n ≤ 100 → U64 n := fun n h0 h1 => ⟨h0, by omega⟩
  go_enter Try.func13, Try.ntmps13
  go_wp2_with (fail)
  refine (least_calls 10 _).mono ?_
  rintro e w1 ⟨f, r, pb, rfl, h1, f1, r1, p1, K1⟩
  have L0 : Link ⟨10, 0, true, []⟩ ⟨10, 0, true, []⟩ := Link.start 10 true (u 10 (by decide) (by decide))
  have L1 := L0.put (t := 1) (by decide) (u 1 (by decide) (by decide)) 5
  have L2 := L1.put (t := 4) (by decide) (u 4 (by decide) (by decide)) 7
  have L3 := L2.to (t := 12) (by decide) (u 12 (by decide) (by decide))
  go_wp2_with (fail)
  refine (put_on f r pb ⟨10, 0, true, []⟩ 1 5 _ h1 (by decide) L0.uW L0.ux (by decide)).mono ?_
  rintro e w2 ⟨rfl, ⟨pb2, h2, hp2⟩, K2⟩
  have q2 : w.heap.size ≤ pb2 := by have := K1.size; rcases hp2 with rfl | h; exact p1; omega
  have k2 : Keeps [] w w2 := K1.trans K2 (by intro c hc; simp at hc; right; omega)
  go_wp2_with (fail)
  refine (put_on f r pb2 _ 4 7 _ h2 (by decide) L1.uW L1.ux (by decide)).mono ?_
  rintro e w3 ⟨rfl, ⟨pb3, h3, hp3⟩, K3⟩
  have q3 : w.heap.size ≤ pb3 := by have := k2.size; rcases hp3 with rfl | h; exact q2; omega
  have k3 : Keeps [] w w3 := k2.trans K3 (by intro c hc; simp at hc; right; omega)
  clear h1 h2 hp2 hp3 K1 K2 K3 k2
  go_wp2_with (fail)
  refine (best_calls f r pb3 _ _ h3).mono ?_
  rintro e w4 ⟨rfl, K4⟩
  have h4 := h3.keeps K4 (by simp) (by simp) (by simp)
  have k4 := k3.trans K4 (by simp)
  clear h3 k3 K4
  have e1 : hdx ⟨10, 4, true, popw true 7 (prune 10 4 (popw true 5 (prune 10 1 []) ++ ([⟨1, 5⟩] : List Rdg))) ++ ([⟨4, 7⟩] : List Rdg)⟩ = 5 := by rfl
  have e2 : hdt ⟨10, 4, true, popw true 7 (prune 10 4 (popw true 5 (prune 10 1 []) ++ ([⟨1, 5⟩] : List Rdg))) ++ ([⟨4, 7⟩] : List Rdg)⟩ = 1 := by rfl
  have e3 : (!(popw true 7 (prune 10 4 (popw true 5 (prune 10 1 []) ++ ([⟨1, 5⟩] : List Rdg))) ++ ([⟨4, 7⟩] : List Rdg)).isEmpty) = true := by rfl
  dsimp only
  rw [e1, e2, e3]
  clear e1 e2 e3
  go_wp2_with (fail)
  refine (to_on f r pb3 _ 12 _ h4 (by decide) L2.uW L2.ux).mono ?_
  rintro e w5 ⟨rfl, h5, K5⟩
  have k5 : Keeps [] w w5 := k4.trans K5 (by intro c hc; simp at hc; right; omega)
  clear h4 k4 K5
  go_wp2_with (fail)
  refine (best_calls f r pb3 _ _ h5).mono ?_
  rintro e w6 ⟨rfl, K6⟩
  have h6 := h5.keeps K6 (by simp) (by simp) (by simp)
  have k6 := k5.trans K6 (by simp)
  clear h5 k5 K6
  have e1 : hdx ⟨10, 12, true, prune 10 12 (popw true 7 (prune 10 4 (popw true 5 (prune 10 1 []) ++ ([⟨1, 5⟩] : List Rdg))) ++ ([⟨4, 7⟩] : List Rdg))⟩ = 7 := by rfl
  have e2 : hdt ⟨10, 12, true, prune 10 12 (popw true 7 (prune 10 4 (popw true 5 (prune 10 1 []) ++ ([⟨1, 5⟩] : List Rdg))) ++ ([⟨4, 7⟩] : List Rdg))⟩ = 4 := by rfl
  have e3 : (!(prune 10 12 (popw true 7 (prune 10 4 (popw true 5 (prune 10 1 []) ++ ([⟨1, 5⟩] : List Rdg))) ++ ([⟨4, 7⟩] : List Rdg))).isEmpty) = true := by rfl
  dsimp only
  rw [e1, e2, e3]
  clear e1 e2 e3
  go_wp2_with (fail)
  refine (to_back f r pb3 _ 11 _ h6 (by decide)).mono ?_
  rintro e w7 ⟨rfl, rfl⟩
  go_wp2
  go_ret
  exact ⟨rfl, k6⟩
theorem append_row (w : World) (ty : TypeId) {v : Value} {n : Nat} {cs : List Value} (h : w.ownsRow 0 226 2 v n cs) (h1 : ∀ u ∈ cs, u.oneCell' = true) (hn : n ≤ 1000000) :
    ∃ v' w', (Builtin.append_ #[28, 28] ty #[.slice none 0 0, v]).run Try.prog w = .ok v' w' ∧ w'.ownsRow 0 226 2 v' n cs ∧ Keeps [] w w' ∧ ∀ b, v'.ownBlock = some b → w.heap.size ≤ b := by
  obtain ⟨i0, hi0, hii⟩ := Option.map_eq_some_iff.1 info_R
  simp only [Prod.mk.injEq] at hii
  obtain ⟨hi1, hi2, hi3⟩ := hii
  rcases own_form h with ⟨rfl, rfl, rfl⟩ | ⟨g, cap, cur, rfl, B, h2, h3, h4, h5⟩
  · refine ⟨.slice none 0 0, w, ?_, h, Keeps.refl _ _, by simp [Value.ownBlock]⟩
    simp [Builtin.append_, run_underlying Try.underlying28, sizeOf, typeInfo, hi0, Builtin.lenOf, Builtin.firstCells, loadCells, loadCellsFrom]
  · obtain ⟨v', w', hr, ho, hg, _, hat⟩ := run_append_own_at (P := Try.prog) w 0 28 ty 226 i0 _ 2 16 Try.underlying28 hi0 hi1 hi2 hi3 rfl (by decide) (.slice none 0 0) 0 [] (World.ownsRow_nil w 0 _ 2) ⟨g, 0, none⟩ n cap cs h.1 (by intro j u hj; have e1 : (⟨g, 0, none⟩ : Addr).add j = ⟨g, j, none⟩ := (by unfold Addr.add; split <;> simp_all); rw [e1, own_at h (by have := h.1; have := (List.getElem?_eq_some_iff.1 hj).1; omega)]; exact hj) h1 (by unfold maxLen; omega) (by omega) (by simp)
    refine ⟨v', w', hr, by simpa using ho, Keeps.of_grown hg (by simp [Value.ownBlock]), ?_⟩
    intro b hb
    rcases hat with h' | h'
    · rw [h'] at hb; simp [Value.ownBlock] at hb
    · rw [h'] at hb; cases hb; exact Nat.le_refl _
structure AAct where
  p : Bool
  t : Int
  x : Int
/-- A slice of acts, as it lies. -/
structure ActsAt (w : World) (A : Option Addr) (l : List AAct) : Prop where
  u : ∀ a ∈ l, U64 a.t
  at_ : ∀ k (h : k < l.length), ∃ a, A = some a ∧ w.cell? (a.add (k * 3)) = some (.bool l[k].p) ∧ w.cell? ⟨(a.add (k * 3)).block, (a.add (k * 3)).off + 1, none⟩ = some (.int .u64 l[k].t) ∧ w.cell? ⟨(a.add (k * 3)).block, (a.add (k * 3)).off + 2, none⟩ = some (.int .u64 l[k].x)
theorem ActsAt.keeps {w w' : World} {A : Option Addr} {l : List AAct} (h : ActsAt w A l) (k : Keeps [] w w') : ActsAt w' A l := by
  refine ⟨h.u, fun i hi => ?_⟩
  obtain ⟨a, h1, h2, h3, h4⟩ := h.at_ i hi
  exact ⟨a, h1, (k.cell (World.block_lt_of_cell? _ _ h2) (by simp)).trans h2, (k.cell (World.block_lt_of_cell? _ _ h3) (by simp)).trans h3, (k.cell (World.block_lt_of_cell? _ _ h4) (by simp)).trans h4⟩
end Go.Proofs.Ytaceikdmepeoiaa
