namespace Go.Proofs.YtjnojomfaikfjaaR
set_option linter.unusedSimpArgs false
set_option linter.unusedVariables false
/-- the place of an item -/
def slot (frm cap i : Nat) : Nat := (frm + i) % cap
theorem slot_eq {frm cap i : Nat} (hf : frm < cap) (hi : i ≤ cap) : slot frm cap i = if frm + i < cap then frm + i else frm + i - cap := by
  unfold slot
  split
  · rename_i h; exact Nat.mod_eq_of_lt h
  · rename_i h
    rw [Nat.mod_eq_sub_mod (by omega)]; 
    exact Nat.mod_eq_of_lt (by omega)
theorem slot_lt {frm cap i : Nat} (hf : frm < cap) : slot frm cap i < cap := Nat.mod_lt _ (by omega)
theorem slot_ne {frm cap i k : Nat} (hf : frm < cap) (hi : i < cap) (hk : k < cap) (h : i ≠ k) : slot frm cap i ≠ slot frm cap k := by
  rw [slot_eq hf (by omega), slot_eq hf (by omega)]; split <;> split <;> omega

def wr {α : Type} (l : List α) (o : Nat) : List α → List α
  | [] => l
  | v :: r => wr (l.set o v) (o + 1) r
theorem wr_length {α : Type} : ∀ (vs : List α) (l : List α) (o : Nat), (wr l o vs).length = l.length
  | [], _, _ => rfl
  | v :: r, l, o => by rw [wr, wr_length r]; simp
theorem wr_out {α : Type} : ∀ (vs : List α) (l : List α) (o i : Nat), (i < o ∨ o + vs.length ≤ i) → (wr l o vs)[i]? = l[i]?
  | [], _, _, _, _ => rfl
  | v :: r, l, o, i, h => by
    rw [wr, wr_out r _ _ _ (by simp at h; omega), List.getElem?_set_ne (by simp at h; omega)]
theorem wr_in {α : Type} : ∀ (vs : List α) (l : List α) (o j : Nat), j < vs.length → o + vs.length ≤ l.length → (wr l o vs)[o + j]? = vs[j]?
  | [], _, _, _, h, _ => by simp at h
  | v :: r, l, o, j, h, hl => by
    rw [wr]
    simp at h hl
    cases j with
    | zero =>
      rw [wr_out r _ _ _ (by omega), Nat.add_zero, List.getElem?_set, if_pos rfl, if_pos (by omega)]; rfl
    | succ j =>
      have := wr_in r (l.set o v) (o + 1) j (by omega) (by simp; omega)
      rw [show o + (j + 1) = o + 1 + j by omega, this]; simp

/-- a row of items in a ring of places -/
structure RB {α : Type} (cells : List α) (cap frm sz : Nat) (xs : List (List α)) : Prop where
  len : cap * sz ≤ cells.length
  frm_lt : frm < cap
  n_le : xs.length ≤ cap
  at_ : ∀ i x, xs[i]? = some x → x.length = sz ∧ ∀ j, j < sz → cells[slot frm cap i * sz + j]? = x[j]?

theorem mul_le {a b c : Nat} (h : a < b) (k : Nat) (hk : k ≤ c) : a * c + k ≤ b * c := by
  have := Nat.mul_le_mul_right c (show a + 1 ≤ b from h); rw [Nat.add_mul] at this; omega
theorem apart {a b c j k : Nat} (h : a ≠ b) (hj : j < c) (hk : k < c) : a * c + j ≠ b * c + k := by
  intro e
  rcases Nat.lt_or_gt_of_ne h with h | h
  · have := mul_le h c (Nat.le_refl _) ; omega
  · have := mul_le h c (Nat.le_refl _) ; omega
theorem wr_slot {α : Type} {l v : List α} {a b sz j : Nat} (hv : v.length = sz) (h : a ≠ b) (hj : j < sz) : (wr l (a * sz) v)[b * sz + j]? = l[b * sz + j]? := by
  refine wr_out _ _ _ _ ?_
  rcases Nat.lt_or_gt_of_ne h with h | h
  · have := mul_le h sz (Nat.le_refl _); omega
  · have := mul_le h sz (Nat.le_refl _); omega

variable {α : Type} {cells : List α} {cap frm sz : Nat} {xs : List (List α)}
theorem RB.push  (h : RB cells cap frm sz xs) (x : List α) (hx : x.length = sz) (hn : xs.length < cap) : RB (wr cells (slot frm cap xs.length * sz) x) cap frm sz (xs ++ [x]) := by
  refine ⟨by rw [wr_length]; exact h.len, h.frm_lt, by simp; omega, ?_⟩
  intro i y hy
  rw [List.getElem?_append] at hy
  split at hy
  · rename_i hi
    refine ⟨(h.at_ i y hy).1, fun j hj => ?_⟩
    rw [wr_slot hx (slot_ne h.frm_lt hn (by omega) (by omega)) hj]
    exact (h.at_ i y hy).2 j hj
  · rename_i hi
    have : i = xs.length := by
      have := (List.getElem?_eq_some_iff.1 hy).1; simp at this; omega
    subst this
    simp at hy; subst hy
    refine ⟨hx, fun j hj => wr_in _ _ _ _ (by omega) ?_⟩
    rw [hx]; exact Nat.le_trans (mul_le (slot_lt h.frm_lt) sz (Nat.le_refl _)) h.len
theorem RB.shift {x : List α} (h : RB cells cap frm sz (x :: xs)) (z : List α) (hz : z.length = sz) : RB (wr cells (slot frm cap 0 * sz) z) cap ((frm + 1) % cap) sz xs := by
  have hn := h.n_le
  simp at hn
  refine ⟨by rw [wr_length]; exact h.len, Nat.mod_lt _ (by omega), by omega, ?_⟩
  intro i y hy
  have hi := (List.getElem?_eq_some_iff.1 hy).1
  have e : slot ((frm + 1) % cap) cap i = slot frm cap (i + 1) := by unfold slot; rw [Nat.mod_add_mod]; congr 1; omega
  obtain ⟨h1, h2⟩ := h.at_ (i + 1) y (by simpa using hy)
  refine ⟨h1, fun j hj => ?_⟩
  rw [e, wr_slot hz (slot_ne h.frm_lt (by omega) (by omega) (by omega)) hj]
  exact h2 j hj
theorem RB.pop {x : List α} (h : RB cells cap frm sz (xs ++ [x])) (z : List α) (hz : z.length = sz) : RB (wr cells (slot frm cap xs.length * sz) z) cap frm sz xs := by
  have hn := h.n_le
  simp at hn
  refine ⟨by rw [wr_length]; exact h.len, h.frm_lt, by omega, ?_⟩
  intro i y hy
  have hi := (List.getElem?_eq_some_iff.1 hy).1
  obtain ⟨h1, h2⟩ := h.at_ i y (by rw [List.getElem?_append_left hi]; exact hy)
  refine ⟨h1, fun j hj => ?_⟩
  rw [wr_slot hz (slot_ne h.frm_lt (by omega) (by omega) (by omega)) hj]
  exact h2 j hj
theorem RB.get (h : RB cells cap frm sz xs) {i : Nat} (hi : i < xs.length) : (xs[i]).length = sz ∧ ∀ j, j < sz → cells[slot frm cap i * sz + j]? = (xs[i])[j]? := h.at_ i _ (List.getElem?_eq_getElem hi)
/-- grow: the places doubled, the items from the first place on -/
def grown (cells : List α) (frm sz cap : Nat) (zs : List α) : List α := (cells.take (cap * sz)).drop (frm * sz) ++ cells.take (frm * sz) ++ zs
theorem RB.grow (h : RB cells cap frm sz xs) (zs : List α) (hz : zs.length = cap * sz) : RB (grown cells frm sz cap zs) (2 * cap) 0 sz xs := by
  have hf := h.frm_lt
  have hl := h.len
  have hle : frm * sz ≤ cap * sz := Nat.mul_le_mul_right _ (by omega)
  have hd : ((cells.take (cap * sz)).drop (frm * sz)).length = cap * sz - frm * sz := by rw [List.length_drop, List.length_take, Nat.min_eq_left hl]
  have ht : (cells.take (frm * sz)).length = frm * sz := by rw [List.length_take]; exact Nat.min_eq_left (by omega)
  refine ⟨?_, by omega, by have := h.n_le; omega, ?_⟩
  · unfold grown
    rw [List.length_append, List.length_append, hd, ht, hz, show 2 * cap * sz = cap * sz + cap * sz by rw [Nat.mul_assoc, Nat.two_mul]]; omega
  intro i y hy
  have hi := (List.getElem?_eq_some_iff.1 hy).1
  have hn := h.n_le
  obtain ⟨h1, h2⟩ := h.at_ i y hy
  refine ⟨h1, fun j hj => ?_⟩
  rw [← h2 j hj, slot_eq (by omega) (by omega), slot_eq hf (by omega), if_pos (by omega), Nat.zero_add]
  unfold grown
  have hij : i * sz + j < cap * sz := Nat.lt_of_lt_of_le (Nat.add_lt_add_left hj _) (mul_le (by omega) sz (Nat.le_refl _))
  rw [List.append_assoc]
  split
  · rename_i hlt
    have hb : (frm + i) * sz + j < cap * sz := Nat.lt_of_lt_of_le (Nat.add_lt_add_left hj _) (mul_le hlt sz (Nat.le_refl _))
    rw [Nat.add_mul] at hb ⊢
    rw [List.getElem?_append_left (by omega), List.getElem?_drop, List.getElem?_take_of_lt (by omega)]
    congr 1; omega
  · rename_i hge
    have e : (frm + i - cap) * sz + cap * sz = frm * sz + i * sz := by rw [← Nat.add_mul, ← Nat.add_mul]; congr 1; omega
    have hb : (frm + i - cap) * sz + j < frm * sz := Nat.lt_of_lt_of_le (Nat.add_lt_add_left hj _) (mul_le (by omega) sz (Nat.le_refl _))
    rw [List.getElem?_append_right (by omega), List.getElem?_append_left (by omega), List.getElem?_take_of_lt (by omega)]
    congr 1; omega
theorem RB.congr {cells' : List α} (h : RB cells cap frm sz xs) (ht : cells'.take (cap * sz) = cells.take (cap * sz)) (hl : cap * sz ≤ cells'.length) : RB cells' cap frm sz xs := by
  refine ⟨hl, h.frm_lt, h.n_le, fun i x hx => ⟨(h.at_ i x hx).1, fun j hj => ?_⟩⟩
  have hlt : slot frm cap i * sz + j < cap * sz := Nat.lt_of_lt_of_le (Nat.add_lt_add_left hj _) (mul_le (slot_lt h.frm_lt) sz (Nat.le_refl _))
  rw [← (h.at_ i x hx).2 j hj, ← List.getElem?_take_of_lt (l := cells') hlt, ht, List.getElem?_take_of_lt hlt]
theorem RB.new (cells : List α) (cap sz : Nat) (hl : cap * sz ≤ cells.length) (hc : 0 < cap) : RB cells cap 0 sz [] := ⟨hl, hc, by simp, fun i x h => by simp at h⟩
end Go.Proofs.YtjnojomfaikfjaaR
