/- Arguments of goitlaw21, opened to cells. -/
import Derived.Test.YtjnojomfaikfjaaRows
import Derived.Test.YtjnojomfaikfjaaLawLC
import Derived.WalkKit
import Derived.ProofKit
import Derived.OpenShut
import Derived.ShutString
import Derived.ChangeOld
import Derived.Below
import Derived.SizedLaws
import Derived.Deep.Slices
import Derived.Deep.Fields
import Derived.ChangeSame
import Derived.Lib.SmallJoins
namespace Go.Proofs.Ytjnojomfaikfjaa
set_option linter.unusedSimpArgs false
set_option linter.unusedVariables false
open Go.ChangeShapes Go.WideShapes Go.ChangeAt Go.RowKit Go.Deep
open Go.ChangeMaps (open_string shut_string)
section
variable {H : Type} {enc : TypeId × Value → H} {P : Program} {w : World} {base : Nat} {spare : Nat → Bool} {held : Bool}
theorem open_slice_fields {t e : TypeId} {fs : Array Field} {fuel : Nat} {cs : List Value} {x : DataW H × List MemPlace} (ht : P.underlying t = some (.slice e)) (he : P.underlying e = some (.struct fs))
    (hone : oneCellFields P fs = true) (hC : P.cellsOf e = fs.size) (h : DataW.trod enc P w base spare held fuel t cs = some x) :
    (cs = [.slice none 0 0] ∧ x = (.nil, [])) ∨
    ∃ (a : Addr) (len cap m : Nat) (D : Nat → DataW H) (Pl : Nat → List MemPlace), cs = [.slice (some a) len cap] ∧ base ≤ a.block ∧ len ≤ cap ∧ cap ≤ maxLen ∧ m = (if spare a.block then cap else len) ∧
      x = (.slice ((List.range len).map D) ((List.range (m - len)).map fun j => D (len + j)), MemPlace.row a (m * fs.size) ++ (List.range m).flatMap Pl) ∧
      ∀ i, i < m → ∃ (ys : List (DataW H × List MemPlace)) (n : Nat), D i = .agg (ys.map (·.1)) ∧ Pl i = ys.flatMap (·.2) ∧ ys.length = fs.size ∧
        ∀ (j : Nat) (f : Field), fs[j]? = some f → ∃ (v : Value) (y : DataW H × List MemPlace), w.cell? (a.add (i * fs.size + j)) = some v ∧ ys[j]? = some y ∧ DataW.trod enc P w base spare held n f.type [v] = some y := by
  rcases open_slice ht h with h0 | ⟨a, len, cap, m, n, D, Pl, hcs, hb, hl, hm, hmm, hx, hi⟩
  · exact .inl h0
  · refine .inr ⟨a, len, cap, m, D, Pl, hcs, hb, hl, hm, hmm, by rw [hC] at hx; exact hx, fun i him => ?_⟩
    obtain ⟨cs', hc, ht'⟩ := hi i him
    rw [hC] at hc
    obtain ⟨ys, n', hn', hy, hlen, hyl, hf⟩ := DataW.trod_struct he ht'
    obtain ⟨_, hcl, hat⟩ := World.cells?_some hc
    simp only [Prod.mk.injEq] at hy
    refine ⟨ys, n', hy.1, hy.2, hyl, fun j f hj => ?_⟩
    obtain ⟨ho, hk⟩ := hone_of hone j f hj
    have hjl : j < fs.size := (Array.getElem?_eq_some_iff.1 hj).1
    have hcell := hat j hjl
    have hv : cs'[j]? = some (cs'[j]'(by omega)) := List.getElem?_eq_getElem (by omega)
    have h1 := hf j f hj
    rw [ho, hk] at h1
    have hone' : (cs'.drop j).take 1 = [cs'[j]'(by omega)] := by
      rw [List.drop_eq_getElem_cons (by omega)]
      rfl
    rw [hone'] at h1
    have hys : ys[j]? = some (ys[j]'(by omega)) := List.getElem?_eq_getElem (by omega)
    refine ⟨_, _, ?_, hys, h1.trans hys⟩
    rw [← Go.Deep.add_add, hcell, hv]
end
theorem listed {α : Type} {Q : Nat → α → Prop} : ∀ n : Nat, (∀ i, i < n → ∃ a, Q i a) → ∃ l : List α, l.length = n ∧ ∀ i (h : i < l.length), Q i l[i]
  | 0, _ => ⟨[], rfl, fun i h => absurd h (by simp)⟩
  | n + 1, h => by
    obtain ⟨l, hl, hq⟩ := listed n fun i hi => h i (by omega)
    obtain ⟨a, ha⟩ := h n (by omega)
    refine ⟨l ++ [a], by simp [hl], fun i hi => ?_⟩
    by_cases hi' : i < l.length
    · rw [List.getElem_append_left hi']; exact hq i hi'
    · have e : i = n := by simp at hi; omega
      subst e
      rw [List.getElem_append_right (by omega)]
      simpa [hl] using ha
theorem add_off (a : Addr) (k j : Nat) : a.add (k + (j + 1)) = ⟨(a.add k).block, (a.add k).off + (j + 1), none⟩ := by
  rw [← Go.Deep.add_add]
  generalize a.add k = b
  unfold Addr.add
  simp
theorem u64_of {n : Int} (h : (Lit.int .u64 n).wf = true) : U64 n := by
  simp [Lit.wf, IntKind.min, IntKind.max, IntKind.signed, IntKind.bits] at h
  unfold U64
  omega
theorem nums_of {H : Type} {enc : TypeId × Value → H} {W : World} {v : Value} {n : Nat} {y : DataW H × List MemPlace} (h : DataW.trod enc Try.prog W 0 (fun _ => true) true n 26 [v] = some y) :
    ∃ l, Nums W W.heap.size v l := by
  rcases Go.ChangeShapes.open_ints (k := .u64) Try.underlying26 Try.underlying22 (by kernel_rfl) h with ⟨hcs, _⟩ | ⟨a, len, cap, zs, hcs, _, hl, hm, hz, _, hc, hw⟩
  · simp at hcs
    subst hcs
    exact ⟨[], by simp, by simp, none, 0, rfl, Nat.le_refl _, fun k h => absurd h (by simp)⟩
  · simp at hcs
    subst hcs
    simp at hz
    have hlen : (zs.take len).length = len := by rw [List.length_take]; omega
    refine ⟨zs.take len, fun x hx => u64_of (hw x (List.mem_of_mem_take hx)), by rw [hlen]; omega, some a, cap, by rw [hlen], by rw [hlen]; exact hl, fun k hk => ⟨a, rfl, ?_, ?_⟩⟩
    · have hk' : k < zs.length := by rw [hlen] at hk; omega
      have := hc k hk'
      rw [this]
      simp [hk']
    · have hk' : k < zs.length := by rw [hlen] at hk; omega
      exact World.block_lt_of_cell? _ _ (hc k hk')
theorem lacts_of {H : Type} {enc : TypeId × Value → H} {W : World} {A : Option Addr} {len cap : Nat} {d : DataW H} {p : List MemPlace} (h : DataW.Trod enc Try.prog W 0 (fun _ => true) true 25 (.slice A len cap) d p) :
    len ≤ maxLen ∧ ∃ l, l.length = len ∧ LActs W W.heap.size A l := by
  obtain ⟨fuel, hf⟩ := h
  rcases open_slice_fields Try.underlying25 Try.underlying36 (by kernel_rfl) (by kernel_rfl) hf with ⟨hcs, _⟩ | ⟨a, l, c, m, D, Pl, hcs, _, hl, hm, hmm, _, hi⟩
  · simp [Value.cells] at hcs
    obtain ⟨rfl, rfl, rfl⟩ := hcs
    exact ⟨Nat.zero_le _, [], rfl, fun k h => absurd h (by simp)⟩
  · simp [Value.cells] at hcs
    obtain ⟨rfl, rfl, rfl⟩ := hcs
    have key : ∀ i, i < len → ∃ x : LAct, U64 x.after ∧ U64 x.waste ∧ ∃ sv cv, (a.add (i * 5)).block < W.heap.size ∧ W.cell? (a.add (i * 5)) = some (.bool x.tick) ∧ W.cell? ⟨(a.add (i * 5)).block, (a.add (i * 5)).off + 1, none⟩ = some sv ∧ W.cell? ⟨(a.add (i * 5)).block, (a.add (i * 5)).off + 2, none⟩ = some (.int .u64 x.after) ∧ W.cell? ⟨(a.add (i * 5)).block, (a.add (i * 5)).off + 3, none⟩ = some (.int .u64 x.waste) ∧ W.cell? ⟨(a.add (i * 5)).block, (a.add (i * 5)).off + 4, none⟩ = some cv ∧ Nums W W.heap.size sv x.sizes ∧ Nums W W.heap.size cv x.choices := by
      intro i hi'
      obtain ⟨ys, n, _, _, _, hf⟩ := hi i (by simp at hmm; omega)
      obtain ⟨v0, y0, c0, _, t0⟩ := hf 0 _ rfl
      obtain ⟨v1, y1, c1, _, t1⟩ := hf 1 _ rfl
      obtain ⟨v2, y2, c2, _, t2⟩ := hf 2 _ rfl
      obtain ⟨v3, y3, c3, _, t3⟩ := hf 3 _ rfl
      obtain ⟨v4, y4, c4, _, t4⟩ := hf 4 _ rfl
      obtain ⟨b, e0, _⟩ := DataW.trod_bool Try.underlying4 t0
      obtain ⟨n2, e2, _, w2⟩ := DataW.trod_int Try.underlying22 t2
      obtain ⟨n3, e3, _, w3⟩ := DataW.trod_int Try.underlying22 t3
      cases e0
      cases e2
      cases e3
      obtain ⟨l1, h1⟩ := nums_of t1
      obtain ⟨l4, h4⟩ := nums_of t4
      refine ⟨⟨b, l1, n2, n3, l4⟩, u64_of w2, u64_of w3, v1, v4, World.block_lt_of_cell? _ _ c0, c0, ?_, ?_, ?_, ?_, h1, h4⟩
      · rw [← add_off a (i * 5) 0]; exact c1
      · rw [← add_off a (i * 5) 1]; exact c2
      · rw [← add_off a (i * 5) 2]; exact c3
      · rw [← add_off a (i * 5) 3]; exact c4
    obtain ⟨l, hll, hq⟩ := listed len key
    refine ⟨Nat.le_trans hl hm, l, hll, fun k hk => ?_⟩
    obtain ⟨q1, q2, sv, cv, q3⟩ := hq k hk
    exact ⟨q1, q2, a, rfl, sv, cv, q3⟩
set_option maxRecDepth 100000 in
theorem path_of {H : Type} {enc : TypeId × Value → H} {W : World} {v : Value} {d : DataW H} {p : List MemPlace} (hv : Value.okWide Try.prog W .any 0 24 v) (h : DataW.Trod enc Try.prog W 0 (fun _ => true) true 24 v d p) :
    ∃ ra de ji bu, v = .agg #[.int .u64 ra, .int .u64 de, .int .u64 ji, .int .u64 bu] ∧ U64 ra ∧ U64 de ∧ U64 ji ∧ U64 bu := by
  obtain ⟨v0, v1, v2, v3, y0, y1, y2, y3, n, rfl, _, _, t0, t1, t2, t3⟩ := Go.Joins.open_agg4 Try.underlying24 (by kernel_rfl) (by kernel_rfl) hv h
  obtain ⟨n0, e0, _, w0⟩ := DataW.trod_int Try.underlying22 t0
  obtain ⟨n1, e1, _, w1⟩ := DataW.trod_int Try.underlying22 t1
  obtain ⟨n2, e2, _, w2⟩ := DataW.trod_int Try.underlying22 t2
  obtain ⟨n3, e3, _, w3⟩ := DataW.trod_int Try.underlying22 t3
  cases e0
  cases e1
  cases e2
  cases e3
  exact ⟨n0, n1, n2, n3, rfl, u64_of w0, u64_of w1, u64_of w2, u64_of w3⟩
end Go.Proofs.Ytjnojomfaikfjaa
