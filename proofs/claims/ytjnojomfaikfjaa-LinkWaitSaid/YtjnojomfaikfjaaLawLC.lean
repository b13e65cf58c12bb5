/- goitlaw21: what its laws share. -/
import Derived.Test.YtjnojomfaikfjaaLawLB
import Derived.Test.YtjnojomfaikfjaaLinkR
namespace Go.Proofs.Ytjnojomfaikfjaa
set_option linter.unusedSimpArgs false
set_option linter.unusedVariables false
open Go.RowKit Go.Proofs.YtjnojomfaikfjaaW.PrintLast
theorem LnkAt.keepsAll {w w' : World} {z : LA} {s : Lnk} {bs : List Nat} (h : LnkAt w z s) (k : Keeps bs w w') (hb : ∀ b ∈ z.all, b ∉ bs) : LnkAt w' z s := by
  have f : ∀ b ∈ z.all, b ∉ bs := hb
  simp only [LA.all, List.mem_cons, List.not_mem_nil, or_false, forall_eq_or_imp, forall_eq] at f
  obtain ⟨f1, f2, f3, f4, f5, f6, f7, f8⟩ := f
  exact ⟨h.blk.keeps k f1, h.hb.keeps k f2, h.hq.keeps k f3 f4 f5, h.hj.keeps k f6 f7 f8⟩
theorem LnkAt.lt {w : World} {z : LA} {s : Lnk} (h : LnkAt w z s) : ∀ b ∈ z.all, b < w.heap.size :=
  al_cons h.blk.lt (al_cons (Blk.lt h.hb) (al_cons h.hq.lt.1 (al_cons h.hq.lt.2.1 (al_cons h.hq.lt.2.2 (al_cons h.hj.lt.1 (al_cons h.hj.lt.2.1 (al_cons h.hj.lt.2.2 al_nil)))))))
/-- all of a link's blocks lie beyond B -/
def LA.From (z : LA) (B : Nat) : Prop := ∀ b ∈ z.all, B ≤ b
theorem LA.From.withJ {z : LA} {B : Nat} (h : z.From B) {j : Nat} (hj : B ≤ j) : (z.withJ j).From B := by
  unfold LA.From at *
  simp only [LA.all, LA.withJ, List.mem_cons, List.not_mem_nil, or_false, forall_eq_or_imp, forall_eq] at *
  exact ⟨h.1, h.2.1, h.2.2.1, h.2.2.2.1, h.2.2.2.2.1, h.2.2.2.2.2.1, h.2.2.2.2.2.2.1, hj⟩
theorem LA.From.withQ {z : LA} {B : Nat} (h : z.From B) {j : Nat} (hj : B ≤ j) : (z.withQ j).From B := by
  unfold LA.From at *
  simp only [LA.all, LA.withQ, List.mem_cons, List.not_mem_nil, or_false, forall_eq_or_imp, forall_eq] at *
  exact ⟨h.1, h.2.1, h.2.2.1, h.2.2.2.1, hj, h.2.2.2.2.2.1, h.2.2.2.2.2.2.1, h.2.2.2.2.2.2.2⟩
theorem LA.From.not_ {z : LA} {B b : Nat} (h : z.From B) (hb : b < B) : b ∉ z.all := fun hm => by have := h b hm; omega
theorem LA.From.le {z : LA} {B C : Nat} (h : z.From B) (hb : C ≤ B) : z.From C := fun b hm => Nat.le_trans hb (h b hm)
/-- two links lie apart -/
def LA.Far (z y : LA) : Prop := ∀ b ∈ z.all, b ∉ y.all
theorem LA.Far.symm {z y : LA} (h : z.Far y) : y.Far z := fun b hb hm => h b hm hb
theorem LA.Far.withJ {z y : LA} (h : z.Far y) {M j : Nat} (hy : ∀ b ∈ y.all, b < M) (hj : j = z.jp ∨ M ≤ j) : (z.withJ j).Far y := by
  intro b hb
  have hjy : j ∉ y.all := by
    rcases hj with rfl | hj
    · exact h _ (by simp [LA.all])
    · intro hm; have := hy _ hm; omega
  simp only [LA.all, LA.withJ, List.mem_cons, List.not_mem_nil, or_false] at hb
  rcases hb with rfl | rfl | rfl | rfl | rfl | rfl | rfl | rfl <;> first | exact hjy | exact h _ (by simp [LA.all])
theorem LA.Far.withQ {z y : LA} (h : z.Far y) {M j : Nat} (hy : ∀ b ∈ y.all, b < M) (hj : j = z.qp ∨ M ≤ j) : (z.withQ j).Far y := by
  intro b hb
  have hjy : j ∉ y.all := by
    rcases hj with rfl | hj
    · exact h _ (by simp [LA.all])
    · intro hm; have := hy _ hm; omega
  simp only [LA.all, LA.withQ, List.mem_cons, List.not_mem_nil, or_false] at hb
  rcases hb with rfl | rfl | rfl | rfl | rfl | rfl | rfl | rfl <;> first | exact hjy | exact h _ (by simp [LA.all])
def LA.upd (z : LA) (q j : Nat) : LA := ⟨z.a, z.b, z.q, z.qr, q, z.j, z.jr, j⟩
theorem sendB (z : LA) : ∀ b ∈ [z.a, z.q, z.qr, z.qp], b ∈ z.all := by simp [LA.all]
theorem u64_path {ra de ji bu : Int} (hp : PathOk ra de ji bu) (h2 : 0 ≤ de) (h3 : 0 ≤ ji) : U64 ra ∧ U64 de ∧ U64 ji ∧ U64 bu := by
  unfold PathOk at hp
  unfold U64
  omega
end Go.Proofs.Ytjnojomfaikfjaa
