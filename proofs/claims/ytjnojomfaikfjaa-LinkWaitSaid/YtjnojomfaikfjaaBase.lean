/- Words for memory: blocks known whole, what a call keeps. -/
import Derived.WalkKit
import Derived.Laws.OwnMore
import Derived.Deep.Draws
import Derived.Laws.Rows
namespace Go.Proofs.Ytjnojomfaikfjaa
set_option linter.unusedSimpArgs false
set_option linter.unusedVariables false
open Go.RowKit
/-- Block g is just the cells cs of element type t, none frozen. -/
@[irreducible] def Blk (w : World) (g : Nat) (t : TypeId) (cs : List Value) : Prop := w.heap[g]? = some (.cells cs.toArray t (0, 0))
/-- What lies outside the blocks bs is as it was. -/
structure Keeps (bs : List Nat) (w w' : World) : Prop where
  os : w'.os = w.os
  tape : w'.tape = w.tape
  output : w'.output = w.output
  size : w.heap.size ≤ w'.heap.size
  block : ∀ k, k < w.heap.size → k ∉ bs → w'.heap[k]? = w.heap[k]?
section
variable {w w' w1 w2 : World} {g : Nat} {t : TypeId} {cs : List Value} {bs : List Nat}
theorem Blk.lt (h : Blk w g t cs) : g < w.heap.size := by
  unfold Blk at h
  exact (Array.getElem?_eq_some_iff.1 h).1
theorem Blk.cell (h : Blk w g t cs) (i : Nat) : w.cell? ⟨g, i, none⟩ = cs[i]? := by unfold Blk at h; rw [cell_of_row w g i cs.toArray t (0, 0) h]; simp
theorem Blk.frozen (h : Blk w g t cs) (i : Nat) : w.frozen? ⟨g, i, none⟩ = false := by
  unfold Blk at h
  simp [World.frozen?, h]
theorem Blk.new (w : World) (t : TypeId) (cs : List Value) : Blk (w.alloc (.cells cs.toArray t)) w.heap.size t cs := by unfold Blk; exact heap_alloc_new w _
theorem Blk.newAt (hg : w.heap.size = g) : Blk (w.alloc (.cells cs.toArray t)) g t cs := hg ▸ Blk.new w t cs
theorem Blk.drew (h : Blk w g t cs) : Blk w.drew g t cs := by unfold Blk at h ⊢; exact h
theorem Blk.drewN (h : Blk w g t cs) (n : Nat) : Blk (w.drewN n) g t cs := by unfold Blk at h ⊢; exact h
theorem Blk.alloc (h : Blk w g t cs) (o : Obj) : Blk (w.alloc o) g t cs := by have hl := h.lt; unfold Blk at h ⊢; exact (Below.heap_alloc w o g hl).trans h
theorem Blk.set_ (h : Blk w g t cs) (i : Nat) (u : Value) : Blk (w.setCell ⟨g, i, none⟩ u) g t (cs.set i u) := by
  unfold Blk at h ⊢
  simp [World.setCell, Array.getElem?_modify, h]
theorem Blk.set2 {ds : List Value} (h : Blk w g t cs) (i : Nat) (u : Value) (e : cs.set i u = ds) : Blk (w.setCell ⟨g, i, none⟩ u) g t ds := e ▸ h.set_ i u
theorem Blk.far (h : Blk w g t cs) {p : Addr} (hp : g ≠ p.block) (u : Value) : Blk (w.setCell p u) g t cs := by unfold Blk at h ⊢; exact (Below.heap_setCell w p u g hp).trans h
theorem Blk.keeps (h : Blk w g t cs) (k : Keeps bs w w') (hg : g ∉ bs) : Blk w' g t cs := by have hl := h.lt; unfold Blk at h ⊢; exact (k.block g hl hg).trans h
theorem Blk.ne_ {g' : Nat} {t' : TypeId} {cs' : List Value} (h : Blk w g t cs) (h' : Blk w g' t' cs') (hne : t ≠ t') : g ≠ g' := by
  rintro rfl
  unfold Blk at h h'
  rw [h] at h'
  injection h' with h'
  injection h' with _ ht
  exact hne ht
theorem Keeps.refl (bs : List Nat) (w : World) : Keeps bs w w := ⟨rfl, rfl, rfl, Nat.le_refl _, fun _ _ _ => rfl⟩
theorem Keeps.drew (h : Keeps bs w w1) : Keeps bs w w1.drew := ⟨h.os, h.tape, h.output, h.size, h.block⟩
theorem Keeps.drewN (h : Keeps bs w w1) (n : Nat) : Keeps bs w (w1.drewN n) := ⟨h.os, h.tape, h.output, h.size, h.block⟩
theorem Keeps.alloc (h : Keeps bs w w1) (o : Obj) : Keeps bs w (w1.alloc o) :=
  ⟨h.os, h.tape, h.output, by have := h.size; simp; omega, fun k hk hb => (Below.heap_alloc w1 o k (by have := h.size; omega)).trans (h.block k hk hb)⟩
/-- A store into one of bs, or into a block that is new. -/
theorem Keeps.set_ (h : Keeps bs w w1) {p : Addr} (hp : p.block ∈ bs ∨ w.heap.size ≤ p.block) (u : Value) : Keeps bs w (w1.setCell p u) :=
  ⟨h.os, h.tape, h.output, by have := h.size; simp [World.setCell]; omega, fun k hk hb => (Below.heap_setCell w1 p u k (by rintro rfl; rcases hp with hp | hp; exact hb hp; omega)).trans (h.block k hk hb)⟩
theorem Keeps.trans (h : Keeps bs w w1) {cs : List Nat} (k : Keeps cs w1 w2) (hc : ∀ c ∈ cs, c ∈ bs ∨ w.heap.size ≤ c) : Keeps bs w w2 :=
  ⟨k.os.trans h.os, k.tape.trans h.tape, k.output.trans h.output, Nat.le_trans h.size k.size, fun i hi hb => (k.block i (by have := h.size; omega) (fun hm => by rcases hc i hm with h1 | h1; exact hb h1; omega)).trans (h.block i hi hb)⟩
theorem Keeps.mono (h : Keeps bs w w1) {cs : List Nat} (hc : ∀ c ∈ bs, c ∈ cs ∨ w.heap.size ≤ c) : Keeps cs w w1 :=
  ⟨h.os, h.tape, h.output, h.size, fun i hi hb => h.block i hi (fun hm => by rcases hc i hm with h1 | h1; exact hb h1; omega)⟩
theorem Keeps.below (h : Keeps bs w w1) {B : Nat} (hB : B ≤ w.heap.size) (hb : ∀ c ∈ bs, B ≤ c) : Below B w w1 :=
  ⟨h.os, h.tape, h.output, h.size, fun k hk => h.block k (by omega) (fun hm => by have := hb k hm; omega)⟩
theorem Keeps.of_below (h : Below w.heap.size w w1) : Keeps bs w w1 := ⟨h.os, h.tape, h.output, h.size, fun k hk _ => h.block k hk⟩
theorem Keeps.of_grown {row : Option Nat} (h : w.grownBy w1 row) (hr : ∀ k, row = some k → k ∈ bs ∨ w.heap.size ≤ k) : Keeps bs w w1 :=
  ⟨h.os, h.tape, h.output, h.size, fun k hk hb => h.block k hk (fun e => by rcases hr k e.symm with h1 | h1; exact hb h1; omega)⟩
theorem Keeps.cell (h : Keeps bs w w') {p : Addr} (hp : p.block < w.heap.size) (hb : p.block ∉ bs) : w'.cell? p = w.cell? p := World.cell?_of_block (h.block p.block hp hb)
theorem Keeps.frozen (h : Keeps bs w w') {p : Addr} (hp : p.block < w.heap.size) (hb : p.block ∉ bs) : w'.frozen? p = w.frozen? p := World.frozen?_of_block (h.block p.block hp hb)
end
theorem nm_cons {b x : Nat} {l : List Nat} (h : b ≠ x) (k : b ∉ l) : b ∉ x :: l := by
  simp only [List.mem_cons, not_or]
  exact ⟨h, k⟩
theorem al_nil {P : Nat → Prop} : ∀ c ∈ ([] : List Nat), P c := by simp
theorem al_cons {P : Nat → Prop} {x : Nat} {l : List Nat} (h : P x) (k : ∀ c ∈ l, P c) : ∀ c ∈ x :: l, P c := by
  intro c hc
  rcases List.mem_cons.1 hc with rfl | hc
  · exact h
  · exact k c hc
theorem i64k (n : Int) (h0 : -1152921504606846976 ≤ n) (h1 : n ≤ 1152921504606846976) : IntKind.i64.wrap n = n := by rw [IntKind.wrap_i64]; omega
theorem i64w (n : Int) (h0 : -1152921504606846976 ≤ n) (h1 : n ≤ 1152921504606846976) : wrap64 n = n := by unfold wrap64; omega
/-- The world under a new name, with what is known of it. -/
theorem wp_at {P : Program} {c : Code} {Q : Exit → Act → World → Prop} {a : Act} {w : World} (F : World → Prop) (h : F w) (k : ∀ w', F w' → Code.wp P c Q a w') : Code.wp P c Q a w := k w h
theorem exit_at {K : Act → World → Prop} {Q : Exit → Act → World → Prop} {a : Act} {w : World} (F : World → Prop) (h : F w) (k : ∀ w', F w' → Exit.then K Q .normal a w') : Exit.then K Q .normal a w := k w h
theorem calls_at {P : Program} {f : FuncId} {args : Array Value} {w : World} {R : Ending → World → Prop} (F : World → Prop) (h : F w) (k : ∀ w', F w' → Calls P f args w' R) : Calls P f args w R := k w h
end Go.Proofs.Ytjnojomfaikfjaa
