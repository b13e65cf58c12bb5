/- A range over a function that may write what lay there: one law, its body is never left. -/
import Derived.RangeFuncNested
import Derived.RangeFuncCalls
import Derived.RangeFuncLeaves
import Derived.OwnWalkIn
import Derived.Test.YtjnojomfaikfjaaRowA
namespace Go.Proofs.Ytjnojomfaikfjaa
set_option linter.unusedSimpArgs false
set_option linter.unusedVariables false
open Go.RowKit
theorem Keeps.putObj {bs : List Nat} {w w1 : World} (h : Keeps bs w w1) {l : Nat} (hl : l ∈ bs ∨ w.heap.size ≤ l) (o : Obj) : Keeps bs w (w1.putObj l o) :=
  ⟨h.os, h.tape, h.output, by have := h.size; simp [World.putObj]; omega, fun k hk hb => (World.putObj_heap_other (by rintro rfl; rcases hl with hl | hl; exact hb hl; omega)).trans (h.block k hk hb)⟩
theorem Blk.putObj {w : World} {g : Nat} {t : TypeId} {cs : List Value} (h : Blk w g t cs) {l : Nat} {o o' : Obj} (ho : w.heap[l]? = some o) (hc : o.isCells = false) : Blk (w.putObj l o') g t cs := by
  have hne : g ≠ l := by
    rintro rfl
    unfold Blk at h
    rw [ho] at h; cases h; simp [Obj.isCells] at hc
  unfold Blk at h ⊢
  exact (World.putObj_heap_other hne).trans h
/-- turning a block that holds no cells -/
def Turns (B : Nat) (W W' : World) : Prop := ∃ l o o', B ≤ l ∧ W.heap[l]? = some o ∧ o.isCells = false ∧ W' = W.putObj l o'
theorem wp_range {α : Type} {P : Program} {g : Operand} {ps : Array Tmp} {assign body : Code} {Q : Exit → Act → World → Prop} {a : Act} {w : World} {gf n : Nat} {lb : Array Value}
    (hg : a.eval g = .func (.func gf) #[] lb) (eg : ∀ args w, (callFunc gf args).run P w = .ok (.enter gf args) w)
    (encs : α → Array Value) (hps : ∀ x, (encs x).size = ps.size) (A : α → World → Prop) (M : α → World → Act → World → Prop) (B : α → World → World → Prop) (R : World → Prop)
    (hM : ∀ x W a1 Wa Wb, Turns w.heap.size Wa Wb → M x W a1 Wa → M x W a1 Wb) (hB : ∀ x W W1 W2, Turns w.heap.size W1 W2 → B x W W1 → B x W W2) (hR : ∀ W W', Turns w.heap.size W W' → R W → R W')
    (hassign : ∀ (m l : Nat) (x : α) (W : World) (K : Act → World → Prop), A x W → (∀ a1 Wa, KeepsOthers W Wa → M x W a1 Wa → K a1 Wa) →
      assign.wpIn (Fence.wide.inRound l) m P (Exit.then K (fun _ _ _ => False)) { tmps := (ps.zip (encs x)).foldl (fun t (p, v) => t.setIfInBounds p v) a.tmps, defers := [] } W)
    (hbody : ∀ (m l : Nat) (x : α) (W : World) (a1 : Act) (Wa : World), M x W a1 Wa → body.wpIn (Fence.wide.inRound l) m P (fun e _ W' => e = .normal ∧ KeepsOthers Wa W' ∧ B x W W') a1 Wa)
    (hcall : ∀ (l : Nat) (W1 : World) (Rec : World → Prop), Keeps [] w W1 → (∀ W W', Rec W → (∀ k, w.heap.size ≤ k → k < w.heap.size + 2 → W'.heap[k]? = W.heap[k]?) → Rec W') → Rec W1 → W1.heap.size = w.heap.size + 2 →
      (∀ m x W, A x W → Rec W → YieldAt Fence.wide m P l (encs x) W fun e W' => e = .returned (.bool true) ∧ B x W W' ∧ Rec W') →
      CallsIn Fence.wide n P gf (#[.func (.yield l) #[] #[]] ++ lb) W1 fun e W' => (∃ v, e = .returned v) ∧ R W' ∧ Rec W')
    (hdone : ∀ (D : Nat) (W : World), R W → w.heap.size ≤ D → W.heap[D]? = some (.deferred (some [])) → Q .normal { a with defers := { target := .collected D, args := #[] } :: a.defers } W) :
    (Code.rangeFunc g ps assign body).wpIn Fence.wide (n + 1) P Q a w := by
  refine wpIn_rangeFunc ?_
  intro fn hfn
  obtain ⟨rec, hrec⟩ : ∃ rec : LoopState → Option Code → Loop, rec = fun st pe => { state := st, pending := pe, fn, tmps := a.tmps, params := ps, assign, body, defers := w.heap.size } := ⟨_, rfl⟩
  obtain ⟨W1, hW1⟩ : ∃ W1, (w.alloc (.deferred (some []))).alloc (.loop (rec .ready none)) = W1 := ⟨_, rfl⟩
  have hL1 : W1.heap[w.heap.size + 1]? = some (.loop (rec .ready none)) := by
    rw [← hW1]; have := World.alloc_heap_new (w.alloc (.deferred (some []))) (.loop (rec .ready none)); rwa [World.size_alloc] at this
  have hK1 : W1.heap[w.heap.size]? = some (.deferred (some [])) := by
    rw [← hW1]; exact (Below.heap_alloc _ _ _ (by simp)).trans (World.alloc_heap_new w _)
  have hk1 : Keeps [] w W1 := by rw [← hW1]; exact ((Keeps.refl [] w).alloc _).alloc _
  have hs1 : W1.heap.size = w.heap.size + 2 := by rw [← hW1]; simp
  refine ⟨w.heap.size + 1, [{ target := .collected w.heap.size, args := #[] }], W1, { target := .fn (.func gf) lb, args := #[.func (.yield (w.heap.size + 1)) #[] #[]] }, W1, gf,
    #[.func (.yield (w.heap.size + 1)) #[] #[]] ++ lb, W1, ?_, ?_, ?_, ?_, fun h => by simp [Fence.wide] at h, ?_⟩
  · rw [← hW1, hrec]; exact run_enterLoop_outer _ _ _ _ _
  · simp only [resolve, hg]
    simp [go_sem]
  · intro f' _; trivial
  · simp [invoke, go_sem, eg]
  · refine (hcall (w.heap.size + 1) W1 (fun W => W.heap[w.heap.size + 1]? = some (.loop (rec .ready none)) ∧ W.heap[w.heap.size]? = some (.deferred (some []))) hk1
      (fun W W' h k => ⟨(k _ (by omega) (by omega)).trans h.1, (k _ (by omega) (by omega)).trans h.2⟩) ⟨hL1, hK1⟩ hs1 ?_).mono ?_
    · rintro m x W hA0 ⟨hl, hk⟩
      have hlt : w.heap.size + 1 < W.heap.size := (Array.getElem?_eq_some_iff.1 hl).1
      have hy := run_yield (P := P) (args := encs x) hl (by rw [hrec]; exact hps x)
      rw [hrec] at hy
      have hl0 := hl
      refine ⟨fn, _, assign, body, hy, roundIn_of_wpIn trivial (hassign _ _ x W _ hA0 fun a1 Wa hKa hMa => ?_)⟩
      have hl := hKa.same _ _ hl0 rfl
      have hk := hKa.same _ _ hk rfl
      have hlt : w.heap.size + 1 < Wa.heap.size := (Array.getElem?_eq_some_iff.1 hl).1
      refine ⟨_, run_beginRound hl (by rw [hrec]), ?_⟩
      have hl2 : (Wa.putObj (w.heap.size + 1) (.loop { rec .ready none with state := .busy })).heap[w.heap.size + 1]? = some (.loop { rec .ready none with state := .busy }) := World.putObj_heap_same hlt
      have hk2 : (Wa.putObj (w.heap.size + 1) (.loop { rec .ready none with state := .busy })).heap[w.heap.size]? = some (.deferred (some [])) := (World.putObj_heap_other (by omega)).trans hk
      have ht2 : Turns w.heap.size Wa (Wa.putObj (w.heap.size + 1) (.loop { rec .ready none with state := .busy })) := ⟨_, _, _, by omega, hl, rfl, rfl⟩
      refine wpIn_mono (hbody _ _ x W a1 _ (hM _ _ _ _ _ ht2 hMa)) ?_
      rintro e a3 W3 ⟨rfl, hk3, hb3⟩
      have hl3 := hk3.same _ _ hl2 rfl
      have hr := run_endRound (P := P) none hl3
      have e0 : ({ ({ rec .ready none with state := .busy } : Loop) with state := if (none : Option Code).isNone then .ready else .done, pending := none } : Loop) = rec .ready none := by rw [hrec]; rfl
      rw [e0] at hr
      have ht3 : Turns w.heap.size W3 (W3.putObj (w.heap.size + 1) (.loop (rec .ready none))) := ⟨_, _, _, by omega, hl3, rfl, rfl⟩
      exact ⟨_, _, hr, rfl, hB _ _ _ _ ht3 hb3, World.putObj_heap_same (Array.getElem?_eq_some_iff.1 hl3).1, (World.putObj_heap_other (by omega)).trans (hk3.same _ _ hk2 rfl)⟩
    · rintro e W2 ⟨⟨v, rfl⟩, hr2, hl, hk⟩
      have ht := run_endLoop (P := P) hl (by rw [hrec]; simp)
      rw [hrec] at ht
      refine ⟨none, _, ht, ?_⟩
      have hT : Turns w.heap.size W2 (W2.putObj (w.heap.size + 1) (.loop { state := .exhausted, pending := none, fn, tmps := a.tmps, params := ps, assign, body, defers := w.heap.size })) := ⟨_, _, _, by omega, hl, rfl, rfl⟩
      exact hdone w.heap.size _ (hR _ _ hT hr2) (Nat.le_refl _) ((World.putObj_heap_other (by omega)).trans hk)
theorem wpListIn_append_run {F : Fence} {n : Nat} {P : Program} {w w' : World} {ops : Array Oper} {rest : List Oper} {o : Oper} {a : Act} {Q : Exit → Act → World → Prop} (hgd : o.guard = none) {s x : Operand} {t : TypeId}
    (hop : o.op = .call { callee := .builtin .append, args := #[s, x], argTypes := #[t, t] }) {vs vx v' : Value} (hs : a.eval s = vs) (hx : a.eval x = vx) {ty : TypeId} (hr : (Builtin.append_ #[t, t] ty #[vs, vx]).run P w = .ok v' w') (ht : o.type = ty)
    (h : wpListIn F n P ops Q rest (a.put o.dst v') w') : wpListIn F n P ops Q (o :: rest) a w := by
  subst ht
  refine wpListIn_plain hgd fun K hK' => ?_
  unfold Oper.wpIn
  refine ⟨?_, ?_⟩
  · simp [Oper.about, hop, resolve, Target.leads, Sem.run_pure]
  · rw [Oper.semAt_plain F _ _ (by rw [hop]; intro c hc'; cases hc')]
    simp [execOp, hop, resolve, invoke, builtin, hs, hx, hr, Result.andThen]
    exact hK' _ _ h
theorem KeepsOthers.of_keeps {bs : List Nat} {w w' : World} (k : Keeps bs w w') (hb : ∀ b ∈ bs, ∃ t cs, Blk w b t cs) : KeepsOthers w w' :=
  ⟨k.size, fun i o hi ho => (k.block i (Array.getElem?_eq_some_iff.1 hi).1 (fun hm => by
    obtain ⟨t, cs, B⟩ := hb i hm
    unfold Blk at B
    rw [B] at hi; cases hi; simp [Obj.isCells] at ho)).trans hi⟩
theorem Row.blk {w : World} {e sz : Nat} {v : Value} {xs : List (List Value)} (h : Row w e sz v xs) {b : Nat} (hb : v.ownBlock = some b) : ∃ t cs, Blk w b t cs := by
  rcases own_form h.own with ⟨rfl, _, _⟩ | ⟨g, cap, cur, rfl, B, _⟩
  · simp [Value.ownBlock] at hb
  · simp [Value.ownBlock] at hb; subst hb; exact ⟨_, _, B⟩
/-- below a bound, all but bs is kept -/
structure Near (B : Nat) (bs : List Nat) (w w' : World) : Prop where
  size : w.heap.size ≤ w'.heap.size
  block : ∀ k, k < B → k ∉ bs → w'.heap[k]? = w.heap[k]?
theorem Near.of_keeps {B : Nat} {bs : List Nat} {w w' : World} (k : Keeps bs w w') (hB : B ≤ w.heap.size) : Near B bs w w' := ⟨k.size, fun i hi hb => k.block i (by omega) hb⟩
theorem Near.trans {B : Nat} {bs cs : List Nat} {w w1 w2 : World} (h : Near B bs w w1) (k : Near B cs w1 w2) : Near B (bs ++ cs) w w2 := ⟨Nat.le_trans h.size k.size, fun i hi hb => (k.block i hi (by simp at hb; exact hb.2)).trans (h.block i hi (by simp at hb; exact hb.1))⟩
theorem Near.turns {B : Nat} {bs : List Nat} {w w1 w2 : World} (h : Near B bs w w1) (t : Turns B w1 w2) : Near B bs w w2 := by
  obtain ⟨l, o, o', hl, _, _, rfl⟩ := t
  exact ⟨by have := h.size; simp [World.putObj]; omega, fun k hk hb => (World.putObj_heap_other (by omega)).trans (h.block k hk hb)⟩
theorem Blk.near {B : Nat} {bs : List Nat} {w w' : World} {g : Nat} {t : TypeId} {cs : List Value} (h : Blk w g t cs) (n : Near B bs w w') (hg : g < B) (hb : g ∉ bs) : Blk w' g t cs := by
  unfold Blk at h ⊢
  exact (n.block g hg hb).trans h
theorem RingAt.near {B : Nat} {bs : List Nat} {w w' : World} {E TR sz r pb : Nat} {xs : List (List Value)} (h : RingAt E TR sz w r pb xs) (n : Near B bs w w') (hr : r < B) (hp : pb < B) (hr' : r ∉ bs) (hp' : pb ∉ bs) : RingAt E TR sz w' r pb xs := by
  obtain ⟨N, C, frm, cells, h⟩ := h
  exact ⟨N, C, frm, cells, { h with ring := h.ring.near n hr hr', places := h.places.near n hp hp' }⟩
theorem Blk.turns {B : Nat} {w w' : World} {g : Nat} {t : TypeId} {cs : List Value} (h : Blk w g t cs) (ht : Turns B w w') : Blk w' g t cs := by
  obtain ⟨l, o, o', hl, ho, hc, rfl⟩ := ht
  exact h.putObj ho hc
theorem Row.turns {B : Nat} {w w' : World} {e sz : Nat} {v : Value} {xs : List (List Value)} (h : Row w e sz v xs) (ht : Turns B w w') : Row w' e sz v xs := by
  refine ⟨?_, h.len, h.one⟩
  rcases own_form h.own with ⟨h1, h2, h3⟩ | ⟨g, cap, cur, h1, h2, h3, h4, h5, h6⟩
  · exact ⟨by rw [h2, h3]; simp, .inl ⟨h1, h2⟩⟩
  · rw [h1]; exact own_mk (h2.turns ht) h3 h4 h5 h6
theorem Keeps.turns {B : Nat} {bs : List Nat} {w w1 w2 : World} (h : Keeps bs w w1) (t : Turns B w1 w2) (hB : w.heap.size ≤ B) : Keeps bs w w2 := by
  obtain ⟨l, o, o', hl, _, _, rfl⟩ := t
  exact h.putObj (.inr (by omega)) _
theorem RingAt.turns {B : Nat} {w w' : World} {E TR sz r pb : Nat} {xs : List (List Value)} (h : RingAt E TR sz w r pb xs) (t : Turns B w w') : RingAt E TR sz w' r pb xs := by
  obtain ⟨N, C, frm, cells, h⟩ := h
  exact ⟨N, C, frm, cells, { h with ring := h.ring.turns t, places := h.places.turns t }⟩
theorem in_call {P : Program} {n f : Nat} {args : Array Value} {w : World} {R R' : Ending → World → Prop} (h : Calls P f args w R) (k : ∀ e w', R e w' → R' e w') :
    Fence.wide.fn f ∧ (Fence.wide.depth.isSome = true → 1 ≤ n) ∧ CallsIn Fence.wide (n - 1) P f args w R' := ⟨trivial, fun h => by simp [Fence.wide] at h, (callsIn_wide.2 h).mono k⟩
theorem in_call1 {P : Program} {n f : Nat} {args : Array Value} {w : World} {R R' : Ending → World → Prop} (h : Calls P f args w R) (k : ∀ e w', R e w' → R' e w') :
    Fence.wide.fn f ∧ CallsIn Fence.wide n P f args w R' := ⟨trivial, (callsIn_wide.2 h).mono k⟩
theorem in_round {P : Program} {n f l : Nat} {args : Array Value} {w : World} {R R' : Ending → World → Prop} (h : Calls P f args w R) (k : ∀ e w', R e w' → R' e w') :
    (Fence.wide.inRound l).fn f ∧ ((Fence.wide.inRound l).depth.isSome = true → 1 ≤ n) ∧ CallsIn (Fence.wide.inRound l) (n - 1) P f args w R' := ⟨trivial, fun h => by simp [Fence.wide, Fence.inRound] at h, CallsIn.inRound l ((callsIn_wide.2 h).mono k)⟩
end Go.Proofs.Ytjnojomfaikfjaa
