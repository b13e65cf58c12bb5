/- The builtin copy on elements of any number of cells. -/
import Derived.Test.YtjnojomfaikfjaaBase
import Derived.Laws.CopyRow
namespace Go.Proofs.Ytjnojomfaikfjaa
set_option linter.unusedSimpArgs false
set_option linter.unusedVariables false
open Go.RowKit
theorem run_copy_size {P : Program} (w : World) (dT sT ty elem : TypeId) (g o dLen dCap : Nat) (a : Addr) (sLen sCap sz m : Nat) (cur : Array Value) (t : TypeId) (cs : List Value)
    (hu : P.underlying dT = some (.slice elem)) (hs : (P.info? elem).map (·.size) = some sz)
    (hg : w.heap[g]? = some (.cells cur t (0, 0))) (hm : Nat.min sLen dLen = m) (hn : cs.length = m * sz)
    (hsrc : ∀ j v, cs[j]? = some v → w.cell? (a.add j) = some v) (hfit : o + cs.length ≤ cur.size) (h1 : ∀ v ∈ cs, v.oneCell' = true) :
    (Builtin.copy_ #[dT, sT] ty #[.slice (some ⟨g, o, none⟩) dLen dCap, .slice (some a) sLen sCap]).run P w =
      .ok (goInt m) (w.setRow g (cur.toList.take o ++ cs ++ cur.toList.drop (o + cs.length)).toArray) := by
  have hl := run_loadCells_list (P := P) w a cs hsrc
  have hst := run_storeCells_at P g o t cs 0 cur w hg (by simpa using hfit) h1
  cases hq : P.info? elem with
  | none => simp [hq] at hs
  | some i =>
    have hi : i.size = sz := by simpa [hq] using hs
    simp [Builtin.copy_, run_underlying hu, Builtin.lenOf, Builtin.firstCells, sizeOf, typeInfo, hq, hi, hm, ← hn, hl, hst]
theorem Blk.row {w : World} {g : Nat} {t : TypeId} {cs : List Value} (h : Blk w g t cs) (ds : List Value) : Blk (w.setRow g ds.toArray) g t ds := by
  unfold Blk at h ⊢
  exact setRow_heap w g _ _ t _ h
theorem Blk.rowFar {w : World} {g k : Nat} {t : TypeId} {cs : List Value} (h : Blk w g t cs) (hk : g ≠ k) (ds : Array Value) : Blk (w.setRow k ds) g t cs := by
  unfold Blk at h ⊢
  exact (setRow_other w k g ds hk).trans h
theorem Keeps.row {w w1 : World} {bs : List Nat} (h : Keeps bs w w1) {k : Nat} (hk : k ∈ bs ∨ w.heap.size ≤ k) (ds : Array Value) : Keeps bs w (w1.setRow k ds) :=
  ⟨h.os, h.tape, h.output, by have := h.size; simp [World.setRow]; omega, fun i hi hb => (setRow_other w1 k i ds (by rintro rfl; rcases hk with hk | hk; exact hb hk; omega)).trans (h.block i hi hb)⟩
theorem madeCells_one {zs : Array Value} (h : ∀ v ∈ zs, v.oneCell' = true) (m : Nat) : ∀ v ∈ (madeCells zs m).toList, v.oneCell' = true := by
  intro v hv
  simp only [madeCells, Array.toList_map, List.mem_map] at hv
  obtain ⟨i, _, rfl⟩ := hv
  by_cases hz : zs.size = 0
  · have : zs = #[] := Array.eq_empty_of_size_eq_zero hz
    subst this
    rfl
  · have hlt : i % zs.size < zs.size := Nat.mod_lt _ (by omega)
    rw [getElem!_pos zs _ hlt]
    exact h _ (Array.getElem_mem hlt)
theorem copy_blk {P : Program} (W : World) (T ty e sz b o dLen dCap pb so sLen sCap m : Nat) (cells zs X Y : List Value) (hu : P.underlying T = some (.slice e)) (hs : (P.info? e).map (·.size) = some sz)
    (B : Blk W b e zs) (S : Blk W pb e cells) (hm : Nat.min sLen dLen = m) (hX : X = (cells.drop so).take (m * sz)) (lX : X.length = m * sz) (hfit : o + m * sz ≤ zs.length) (h1 : ∀ v ∈ X, v.oneCell' = true) (hY : Y = zs.take o ++ X ++ zs.drop (o + m * sz)) :
    (Builtin.copy_ #[T, T] ty #[.slice (some ⟨b, o, none⟩) dLen dCap, .slice (some ⟨pb, so, none⟩) sLen sCap]).run P W = .ok (goInt m) (W.setRow b Y.toArray) := by
  have hB := B
  unfold Blk at hB
  rw [run_copy_size (P := P) W T T ty e b o dLen dCap ⟨pb, so, none⟩ sLen sCap sz m zs.toArray e X hu hs hB hm lX ?_ (by simpa [lX] using hfit) ?_, hY, lX]
  · intro j v hj
    have e1 : (⟨pb, so, none⟩ : Addr).add j = ⟨pb, so + j, none⟩ := by unfold Addr.add; split <;> simp_all
    have hlt : j < m * sz := by rw [← lX]; exact (List.getElem?_eq_some_iff.1 hj).1
    rw [e1, S.cell, ← hj, hX, List.getElem?_take_of_lt hlt, List.getElem?_drop]
  · exact h1
end Go.Proofs.Ytjnojomfaikfjaa
