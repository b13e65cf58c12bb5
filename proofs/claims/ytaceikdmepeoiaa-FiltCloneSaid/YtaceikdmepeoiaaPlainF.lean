/- The filter in plain: the row against all readings. -/
import Derived.Test.YtaceikdmepeoiaaRefB
namespace Go.Proofs.Ytaceikdmepeoiaa.PF
set_option linter.unusedSimpArgs false
set_option linter.unusedVariables false
open Go.RowKit Go.Proofs.YtaceikdmepeoiaaW.PrintLast
theorem snoc_ind {α : Type} {P : List α → Prop} (nil : P []) (snoc : ∀ l a, P l → P (l ++ [a])) (l : List α) : P l := by
  have h : ∀ n (l : List α), l.length = n → P l := by
    intro n
    induction n with
    | zero => intro l hl; rw [List.length_eq_zero_iff.1 hl]; exact nil
    | succ n ih =>
      intro l hl
      have hne : l ≠ [] := by intro e; subst e; simp at hl
      rw [← List.dropLast_concat_getLast hne]
      exact snoc _ _ (ih _ (by simp [hl]))
  exact h _ l rfl
theorem better_trans {l : Bool} {a b c : Int} (h : better l a b = true) (k : better l b c = true) : better l a c = true := by
  unfold better at *; cases l <;> simp at * <;> omega
theorem better_neg {l : Bool} {a b c : Int} (h : better l a c = false) (k : better l a b = true) : better l b c = false := by
  unfold better at *; cases l <;> simp at * <;> omega
/-- the skyline of all readings, and the definitional put -/
def put (l : Bool) (xs : List Rdg) (r : Rdg) : List Rdg := xs.filter (fun e => better l e.x r.x) ++ [r]
def sky (l : Bool) (L : List Rdg) : List Rdg := L.foldl (put l) []
theorem sky_snoc (l : Bool) (L : List Rdg) (r : Rdg) : sky l (L ++ [r]) = put l (sky l L) r := by simp [sky]

theorem best_snoc (l W now L r) : bestOf W now l (L ++ [r]) = upd W now l (bestOf W now l L) r := by simp [bestOf]

def Sorted (now : Int) (L : List Rdg) : Prop := L.Pairwise (fun a b => a.t ≤ b.t) ∧ ∀ r ∈ L, r.t ≤ now
def Chain (l : Bool) (xs : List Rdg) : Prop := xs.Pairwise (fun a b => better l a.x b.x = true)

theorem sky_sub (l : Bool) (L : List Rdg) : (sky l L).Sublist L := by
  induction L using snoc_ind with
  | nil => simp [sky]
  | snoc L r ih =>
    rw [sky_snoc]; unfold put
    exact List.Sublist.append (List.Sublist.trans List.filter_sublist ih) (List.Sublist.refl _)
theorem sky_chain (l : Bool) (L : List Rdg) : Chain l (sky l L) := by
  induction L using snoc_ind with
  | nil => simp [sky, Chain]
  | snoc L r ih =>
    rw [sky_snoc]; unfold put Chain
    rw [List.pairwise_append]
    refine ⟨List.Pairwise.sublist List.filter_sublist ih, by simp, ?_⟩
    intro a ha b hb
    simp at ha hb; subst hb; exact ha.2

theorem cnt_mono {W now : Int} {a b : Rdg} (h : a.t ≤ b.t) (ha : cntB W now a = true) : cntB W now b = true := by
  unfold cntB sat M64 at *; simp at *; split at ha <;> split <;> omega
theorem cnt_anti {W now now' : Int} {a : Rdg} (h : now ≤ now') (ha : cntB W now' a = true) : cntB W now a = true := by
  unfold cntB at *; simp at *; omega

theorem dropWhile_filter {α : Type} (p : α → Bool) : ∀ (xs : List α), xs.Pairwise (fun a b => p a = true → p b = true) → xs.dropWhile (fun e => !p e) = xs.filter p
  | [], _ => rfl
  | a :: xs, h => by
    rw [List.pairwise_cons] at h
    by_cases hp : p a = true
    · rw [List.dropWhile_cons_of_neg (by simp [hp]), List.filter_cons_of_pos hp]
      congr 1
      exact (List.filter_eq_self.2 (fun b hb => h.1 b hb hp)).symm
    · rw [List.dropWhile_cons_of_pos (by simp [hp]), List.filter_cons_of_neg hp]
      exact dropWhile_filter p xs h.2

theorem prune_filter {W t : Int} {xs : List Rdg} (h : xs.Pairwise (fun a b => a.t ≤ b.t)) : prune W t xs = xs.filter (cntB W t) :=
  dropWhile_filter _ xs (h.imp fun h' => cnt_mono h')
theorem popw_filter {l : Bool} {xs : List Rdg} {r : Rdg} (h : Chain l xs) : popw l r.x xs = xs.filter (fun e => better l e.x r.x) := by
  unfold popw
  rw [dropWhile_filter (fun e : Rdg => better l e.x r.x) xs.reverse, List.filter_reverse, List.reverse_reverse]
  rw [List.pairwise_reverse]
  exact h.imp fun h' hb => better_trans h' hb

/-- between the program's row and all readings -/
def Rel (l : Bool) (W now : Int) (xs L : List Rdg) : Prop := xs = (sky l L).filter (cntB W now) ∧ Sorted now L

theorem Rel.to {l : Bool} {W now t : Int} {xs L : List Rdg} (h : Rel l W now xs L) (ht : now ≤ t) : Rel l W t (prune W t xs) L := by
  obtain ⟨rfl, hs, hn⟩ := h
  refine ⟨?_, hs, fun r hr => by have := hn r hr; omega⟩
  rw [prune_filter (List.Pairwise.sublist (List.Sublist.trans List.filter_sublist (sky_sub l L)) hs), List.filter_filter]
  congr 1; funext a
  cases h1 : cntB W t a with
  | false => simp
  | true => simp [cnt_anti ht h1]
theorem Rel.put {l : Bool} {W now x : Int} {xs L : List Rdg} (h : Rel l W now xs L) (h0 : 0 ≤ W) (hM : now ≤ M64) : Rel l W now (popw l x xs ++ [⟨now, x⟩]) (L ++ [⟨now, x⟩]) := by
  obtain ⟨rfl, hs, hn⟩ := h
  refine ⟨?_, ?_, ?_⟩
  · rw [popw_filter (r := ⟨now, x⟩) (List.Pairwise.sublist List.filter_sublist (sky_chain l L)), sky_snoc]
    unfold PF.put
    have hc : cntB W now ⟨now, x⟩ = true := by unfold cntB sat; unfold M64 at *; simp; split <;> omega
    rw [List.filter_append, List.filter_filter, List.filter_filter]
    simp only [List.filter_cons, hc, if_true, List.filter_nil]
    congr 2; funext a; exact Bool.and_comm _ _
  · rw [List.pairwise_append]; exact ⟨hs, by simp, fun a ha b hb => by simp at hb; subst hb; exact hn a ha⟩
  · intro r hr; simp at hr; rcases hr with hr | rfl
    · exact hn r hr
    · exact Int.le_refl _
theorem best_head {l : Bool} {W now : Int} : ∀ {L : List Rdg}, L.Pairwise (fun a b => a.t ≤ b.t) → bestOf W now l L = ((sky l L).filter (cntB W now)).head? := by
  intro L
  induction L using snoc_ind with
  | nil => intro _; simp [bestOf, sky]
  | snoc L r ih =>
    intro hs
    rw [List.pairwise_append] at hs
    have ih := ih hs.1
    rw [best_snoc, sky_snoc, ih]
    unfold upd PF.put
    rw [List.filter_append]
    have hch : Chain l ((sky l L).filter (cntB W now)) := List.Pairwise.sublist List.filter_sublist (sky_chain l L)
    by_cases hc : cntB W now r = true
    · rw [if_pos hc]
      simp only [List.filter_cons, hc, if_true, List.filter_nil]
      rw [List.filter_filter]
      have e : (fun a => cntB W now a && better l a.x r.x) = (fun a => better l a.x r.x && cntB W now a) := by funext a; exact Bool.and_comm _ _
      rw [e, ← List.filter_filter]
      generalize (sky l L).filter (cntB W now) = ys at *
      cases ys with
      | nil => simp
      | cons c ys =>
        simp only [List.head?_cons]
        unfold Chain at hch
        rw [List.pairwise_cons] at hch
        by_cases hb : better l c.x r.x = true
        · rw [List.filter_cons_of_pos (p := fun a : Rdg => better l a.x r.x) hb]
          have : ¬ (r.x = c.x ∨ decide (r.x < c.x) = l) := by
            unfold better at hb; cases l <;> simp at * <;> omega
          rw [if_neg this]; simp
        · have hb' : better l c.x r.x = false := by simpa using hb
          have : (r.x = c.x ∨ decide (r.x < c.x) = l) := by
            unfold better at hb'; cases l <;> simp at * <;> omega
          rw [if_pos this, List.filter_cons_of_neg (p := fun a : Rdg => better l a.x r.x) hb]
          have : ys.filter (fun a => better l a.x r.x) = [] := by
            rw [List.filter_eq_nil_iff]
            intro a ha
            have := better_neg hb' (hch.1 a ha)
            simp [this]
          rw [this]; simp
    · rw [if_neg hc]
      have hc' : cntB W now r = false := by simpa using hc
      have hall : ∀ a ∈ sky l L, cntB W now a = false := by
        intro a ha
        have hm : a ∈ L := (sky_sub l L).mem ha
        cases h1 : cntB W now a with
        | false => rfl
        | true => exact absurd (cnt_mono (hs.2.2 a hm r (by simp)) h1) hc
      have e1 : (sky l L).filter (cntB W now) = [] := by rw [List.filter_eq_nil_iff]; intro a ha; simp [hall a ha]
      rw [e1, List.filter_filter]
      have e2 : (sky l L).filter (fun a => cntB W now a && better l a.x r.x) = [] := by rw [List.filter_eq_nil_iff]; intro a ha; simp [hall a ha]
      rw [e2]; simp [hc']
theorem Rel.best {l : Bool} {W now : Int} {xs L : List Rdg} (h : Rel l W now xs L) : bestOf W now l L = xs.head? := by
  obtain ⟨rfl, hs, _⟩ := h; exact best_head hs
end Go.Proofs.Ytaceikdmepeoiaa.PF
