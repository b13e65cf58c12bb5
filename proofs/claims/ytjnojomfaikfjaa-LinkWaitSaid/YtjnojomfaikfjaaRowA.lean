/- Rows of one's own: slices that the program has made. -/
import Derived.Test.YtjnojomfaikfjaaFixC
import Derived.Maps.AppendAt
import Derived.OwnWalk
namespace Go.Proofs.Ytjnojomfaikfjaa
set_option linter.unusedSimpArgs false
set_option linter.unusedVariables false
open Go.RowKit
/-- A row of one's own: its block. -/
theorem own_form {w : World} {e sz n : Nat} {v : Value} {cs : List Value} (h : w.ownsRow 0 e sz v n cs) :
    (v = .slice none 0 0 ∧ n = 0 ∧ cs = []) ∨ ∃ g cap cur, v = .slice (some ⟨g, 0, none⟩) n cap ∧ Blk w g e cur ∧ n ≤ cap ∧ cap ≤ maxLen ∧ cur.length = cap * sz ∧ cur.take (n * sz) = cs := by
  obtain ⟨hl, h⟩ := h
  rcases h with ⟨hv, hn⟩ | ⟨g, cap, cur, hv, _, hh, h1, h2, h3, h4⟩
  · subst hn
    exact .inl ⟨hv, rfl, List.eq_nil_of_length_eq_zero (by simpa using hl)⟩
  · refine .inr ⟨g, cap, cur.toList, hv, ?_, h1, h2, by simpa using h3, h4⟩
    unfold Blk
    simpa using hh
theorem own_mk {w : World} {e sz n g cap : Nat} {cs cur : List Value} (B : Blk w g e cur) (h1 : n ≤ cap) (h2 : cap ≤ maxLen) (h3 : cur.length = cap * sz) (h4 : cur.take (n * sz) = cs) : w.ownsRow 0 e sz (.slice (some ⟨g, 0, none⟩) n cap) n cs := by
  unfold Blk at B
  refine ⟨?_, .inr ⟨g, cap, cur.toArray, rfl, Nat.zero_le _, B, h1, h2, by simpa using h3, by simpa using h4⟩⟩
  rw [← h4, List.length_take, h3]
  exact Nat.min_eq_left (Nat.mul_le_mul_right _ h1)
theorem own_keeps {w w' : World} {e sz n : Nat} {v : Value} {cs : List Value} {bs : List Nat} (h : w.ownsRow 0 e sz v n cs) (k : Keeps bs w w') (hv : ∀ b, v.ownBlock = some b → b ∉ bs) : w'.ownsRow 0 e sz v n cs := by
  rcases own_form h with ⟨rfl, rfl, rfl⟩ | ⟨g, cap, cur, rfl, B, h1, h2, h3, h4⟩
  · exact ⟨by simp, .inl ⟨rfl, rfl⟩⟩
  · exact own_mk (B.keeps k (hv g rfl)) h1 h2 h3 h4
theorem own_at {w : World} {e sz n g cap : Nat} {cs : List Value} (h : w.ownsRow 0 e sz (.slice (some ⟨g, 0, none⟩) n cap) n cs) {j : Nat} (hj : j < n * sz) : w.cell? ⟨g, j, none⟩ = cs[j]? := by
  rcases own_form h with ⟨h0, _, _⟩ | ⟨g', cap', cur, hv, B, h1, h2, h3, h4⟩
  · cases h0
  · cases hv
    rw [B.cell, ← h4, List.getElem?_take_of_lt hj]
theorem own_lt {w : World} {e sz n : Nat} {v : Value} {cs : List Value} (h : w.ownsRow 0 e sz v n cs) : ∀ b, v.ownBlock = some b → b < w.heap.size := by
  rcases own_form h with ⟨rfl, rfl, rfl⟩ | ⟨g, cap, cur, rfl, B, h1, h2, h3, h4⟩
  · intro b hb; simp [Value.ownBlock] at hb
  · intro b hb; simp [Value.ownBlock] at hb; subst hb; exact B.lt
theorem own_type {w : World} {e sz n t b : Nat} {v : Value} {cs cs' : List Value} (h : w.ownsRow 0 e sz v n cs) (B : Blk w b t cs') (hne : e ≠ t) : v.ownBlock ≠ some b := by
  rcases own_form h with ⟨rfl, rfl, rfl⟩ | ⟨g, cap, cur, rfl, B', h1, h2, h3, h4⟩
  · simp [Value.ownBlock]
  · intro hb; simp [Value.ownBlock] at hb; subst hb; exact B'.ne_ B hne rfl
theorem flat_len {sz : Nat} : ∀ {xs : List (List Value)}, (∀ x ∈ xs, x.length = sz) → xs.flatten.length = xs.length * sz
  | [], _ => by simp
  | x :: xs, h => by
    rw [List.flatten_cons, List.length_append, h x (by simp), flat_len (fun y hy => h y (by simp [hy])), List.length_cons, Nat.add_mul]; omega
theorem flatten_at {sz : Nat} : ∀ {xs : List (List Value)} {k j : Nat} {x : List Value}, (∀ x ∈ xs, x.length = sz) → xs[k]? = some x → j < sz → xs.flatten[k * sz + j]? = x[j]?
  | a :: xs, 0, j, x, h, hx, hj => by
    simp at hx; subst hx
    rw [List.flatten_cons, Nat.zero_mul, Nat.zero_add, List.getElem?_append_left (by rw [h a (by simp)]; exact hj)]
  | a :: xs, k + 1, j, x, h, hx, hj => by
    simp at hx
    have ha := h a (by simp)
    rw [List.flatten_cons, List.getElem?_append_right (by rw [ha, Nat.add_mul]; omega), ha, ← flatten_at (fun y hy => h y (by simp [hy])) hx hj]
    congr 1
    rw [Nat.add_mul]; omega
  | [], _, _, _, _, hx, _ => by simp at hx
/-- A slice of items, of sz cells each, in a block of its own. -/
structure Row (w : World) (e sz : Nat) (v : Value) (xs : List (List Value)) : Prop where
  own : w.ownsRow 0 e sz v xs.length xs.flatten
  len : ∀ x ∈ xs, x.length = sz
  one : ∀ x ∈ xs, ∀ u ∈ x, u.oneCell' = true
/-- a slice type: its elements -/
structure SlT (P : Program) (T e sz : Nat) : Prop where
  ht : P.underlying T = some (.slice e)
  hi : ∃ i z, P.info? e = some i ∧ i.zero = some z ∧ i.size = sz ∧ i.bytes ≤ 128 ∧ z.cells.size = sz
  pos : 0 < sz
theorem SlT.of {P : Program} {T e sz by_ : Nat} {z : Value} (ht : P.underlying T = some (.slice e)) (h : (P.info? e).map (fun i => (i.zero, i.size, i.bytes)) = some (some z, sz, by_)) (hb : by_ ≤ 128) (hz : z.cells.size = sz) (hp : 0 < sz) : SlT P T e sz := by
  obtain ⟨i0, hi0, hii⟩ := Option.map_eq_some_iff.1 h
  simp only [Prod.mk.injEq] at hii
  exact ⟨ht, ⟨i0, z, hi0, hii.1, hii.2.1, by rw [hii.2.2]; exact hb, hz⟩, hp⟩
section
variable {P : Program} {T e sz : Nat} {w w' : World} {v : Value} {xs : List (List Value)} {bs : List Nat}
theorem Row.nil (w : World) (e sz : Nat) : Row w e sz (.slice none 0 0) [] := ⟨World.ownsRow_nil w 0 e sz, by simp, by simp⟩
theorem Row.keeps (h : Row w e sz v xs) (k : Keeps bs w w') (hv : ∀ b, v.ownBlock = some b → b ∉ bs) : Row w' e sz v xs := ⟨own_keeps h.own k hv, h.len, h.one⟩
theorem Row.keeps0 (h : Row w e sz v xs) (k : Keeps [] w w') : Row w' e sz v xs := h.keeps k (by simp)
theorem Row.lt (h : Row w e sz v xs) : ∀ b, v.ownBlock = some b → b < w.heap.size := own_lt h.own
theorem Row.type {t b : Nat} {cs : List Value} (h : Row w e sz v xs) (B : Blk w b t cs) (hne : e ≠ t) : v.ownBlock ≠ some b := own_type h.own B hne
theorem Row.form (h : Row w e sz v xs) : ∃ A cap, v = .slice A xs.length cap := by
  rcases own_form h.own with ⟨h0, h1, _⟩ | ⟨g, cap, cur, h0, _⟩
  · exact ⟨none, 0, by rw [h0, h1]⟩
  · exact ⟨_, _, h0⟩
theorem Row.formN (h : Row w e sz v xs) {n : Nat} (hn : xs.length = n) : ∃ A cap, v = .slice A n cap := hn ▸ h.form
theorem Row.form1 (h : Row w e sz v xs) (hn : 0 < xs.length) : ∃ g cap, v = .slice (some ⟨g, 0, none⟩) xs.length cap ∧ xs.length ≤ cap := by
  rcases own_form h.own with ⟨h0, h1, _⟩ | ⟨g, cap, cur, h0, _, hc, _⟩
  · omega
  · exact ⟨_, _, h0, hc⟩
theorem Row.addr {A : Option Addr} {n cap : Nat} (h : Row w e sz (.slice A n cap) xs) (hn : 0 < xs.length) : ∃ g, A = some ⟨g, 0, none⟩ := by
  obtain ⟨g, c, hg, _⟩ := h.form1 hn
  simp only [Value.slice.injEq] at hg
  exact ⟨g, hg.1⟩
theorem Row.at_ {g cap n : Nat} (h : Row w e sz (.slice (some ⟨g, 0, none⟩) n cap) xs) {k j : Nat} {x : List Value} (hx : xs[k]? = some x) (hj : j < sz) : w.cell? ⟨g, k * sz + j, none⟩ = x[j]? := by
  have hk : k < xs.length := (List.getElem?_eq_some_iff.1 hx).1
  have ho := h.own
  have hn : n = xs.length := by
    obtain ⟨A, c, hv⟩ := h.form
    cases hv; rfl
  subst hn
  rw [own_at ho, flatten_at h.len hx hj]
  have := Nat.mul_le_mul_right sz (show k + 1 ≤ xs.length from hk)
  rw [Nat.add_mul] at this
  omega
theorem Row.append (S : SlT P T e sz) (ty : TypeId) (h : Row w e sz v xs) (a : Addr) (c : Nat) (ys : List (List Value)) (hy : ∀ y ∈ ys, y.length = sz) (h1 : ∀ y ∈ ys, ∀ u ∈ y, u.oneCell' = true)
    (hc : ∀ k y, ys[k]? = some y → ∀ j, j < sz → w.cell? (a.add (k * sz + j)) = y[j]?) (hn : xs.length + ys.length ≤ 1000000) :
    ∃ v' w', (Builtin.append_ #[T, T] ty #[v, .slice (some a) ys.length c]).run P w = .ok v' w' ∧ Row w' e sz v' (xs ++ ys) ∧ Keeps v.ownBlock.toList w w' ∧ (v'.ownBlock = v.ownBlock ∨ v'.ownBlock = some w.heap.size) := by
  obtain ⟨i, z, hi, hz, hs, hb, hzs⟩ := S.hi
  have hfl := flat_len hy
  obtain ⟨v', w', hr, ho, hg, _, hat⟩ := run_append_own_at (P := P) w 0 T ty e i z sz i.bytes S.ht hi hz hs rfl hzs S.pos v xs.length xs.flatten h.own a ys.length c ys.flatten hfl
    (by
      intro j u hj
      have hjl : j < ys.length * sz := by rw [← hfl]; exact (List.getElem?_eq_some_iff.1 hj).1
      have hp := S.pos
      have hk : j / sz < ys.length := (Nat.div_lt_iff_lt_mul hp).2 hjl
      have hm := Nat.mod_lt j hp
      have e1 : j / sz * sz + j % sz = j := by rw [Nat.mul_comm]; exact Nat.div_add_mod j sz
      have e2 : ys[j / sz]? = some ys[j / sz] := List.getElem?_eq_getElem hk
      have := hc _ _ e2 _ hm
      rw [e1] at this
      rw [this, ← flatten_at hy e2 hm, e1]
      exact hj)
    (by intro u hu; obtain ⟨y, hy', hu'⟩ := List.mem_flatten.1 hu; exact h1 y hy' u hu') (by unfold maxLen; omega)
    (by have := Nat.mul_le_mul hn hb; omega) (Nat.zero_le _)
  refine ⟨v', w', hr, ⟨by simpa [List.flatten_append] using ho, ?_, ?_⟩, Keeps.of_grown hg (by intro k hk; left; simp [hk]), hat⟩
  · intro x hx
    rcases List.mem_append.1 hx with hx | hx
    · exact h.len x hx
    · exact hy x hx
  · intro x hx
    rcases List.mem_append.1 hx with hx | hx
    · exact h.one x hx
    · exact h1 x hx
/-- an item, laid as a slice of one -/
theorem one_cells {b t : Nat} {cs : List Value} (B : Blk w b t cs) (hl : cs.length = sz) : ∀ k y, ([cs] : List (List Value))[k]? = some y → ∀ j, j < sz → w.cell? ((⟨b, 0, none⟩ : Addr).add (k * sz + j)) = y[j]? := by
  intro k y hk j hj
  have hk0 : k = 0 := by have := (List.getElem?_eq_some_iff.1 hk).1; simp at this; exact this
  subst hk0
  simp at hk; subst hk
  rw [Nat.zero_mul, Nat.zero_add]
  have e1 : (⟨b, 0, none⟩ : Addr).add j = ⟨b, j, none⟩ := by unfold Addr.add; split <;> simp_all
  rw [e1, B.cell]
theorem Row.push (S : SlT P T e sz) (ty : TypeId) (h : Row w e sz v xs) (b t : Nat) (cs : List Value) (B : Blk w b t cs) (hl : cs.length = sz) (h1 : ∀ u ∈ cs, u.oneCell' = true) (hn : xs.length ≤ 999999) :
    ∃ v' w', (Builtin.append_ #[T, T] ty #[v, .slice (some ⟨b, 0, none⟩) 1 1]).run P w = .ok v' w' ∧ Row w' e sz v' (xs ++ [cs]) ∧ Keeps v.ownBlock.toList w w' ∧ (v'.ownBlock = v.ownBlock ∨ v'.ownBlock = some w.heap.size) :=
  h.append S ty ⟨b, 0, none⟩ 1 [cs] (by simp [hl]) (by simpa using h1) (one_cells B hl) (by simp; omega)
theorem Row.pushK (S : SlT P T e sz) (ty : TypeId) {w0 W : World} (h : Row w e sz v xs) (K : Keeps [] w0 w) (hf : ∀ b, v.ownBlock = some b → w0.heap.size ≤ b) (k : Keeps [] w W) (b t : Nat) (cs : List Value) (B : Blk W b t cs) (hl : cs.length = sz) (h1 : ∀ u ∈ cs, u.oneCell' = true) (hn : xs.length ≤ 999999) :
    ∃ v' w', (Builtin.append_ #[T, T] ty #[v, .slice (some ⟨b, 0, none⟩) 1 1]).run P W = .ok v' w' ∧ Row w' e sz v' (xs ++ [cs]) ∧ (∀ b, v'.ownBlock = some b → w0.heap.size ≤ b) ∧ Keeps [] w0 w' := by
  obtain ⟨v', w', hr, hR, hK, hat⟩ := (h.keeps0 k).push S ty b t cs B hl h1 hn
  have K1 := K.trans k (by simp)
  refine ⟨v', w', hr, hR, ?_, K1.trans hK (by intro c hc; right; exact hf c (by simpa using hc))⟩
  intro c hc
  rcases hat with h2 | h2
  · exact hf c (h2.symm.trans hc)
  · rw [h2] at hc; cases hc; exact K1.size
end
theorem exec_append {P : Program} {ev : Operand → Value} {o : Oper} {s x : Operand} {t ty : TypeId} {w w' : World} {vs vx v' : Value} (ho : o.op = .call { callee := .builtin .append, args := #[s, x], argTypes := #[t, t] }) (ht : o.type = ty) (hs : ev s = vs) (hx : ev x = vx) (hr : (Builtin.append_ #[t, t] ty #[vs, vx]).run P w = .ok v' w') : (execOp ev o).run P w = .ok (.value v') w' := by
  unfold execOp
  simp only [ho, ht, resolve, invoke, builtin, Sem.run_bind, Sem.run_pure, Result.andThen_ok, List.map_toArray, List.map_cons, List.map_nil, hs, hx, hr]
theorem wpList_append_run {P : Program} {w w' : World} {ops : Array Oper} {rest : List Oper} {o : Oper} {a : Act} {Q : Exit → Act → World → Prop} (hgd : o.guard = none) {s x : Operand} {t : TypeId}
    (ho : o.op = .call { callee := .builtin .append, args := #[s, x], argTypes := #[t, t] }) {vs vx v' : Value} (hs : a.eval s = vs) (hx : a.eval x = vx) {ty : TypeId} (hr : (Builtin.append_ #[t, t] ty #[vs, vx]).run P w = .ok v' w') (ht : o.type = ty)
    (h : wpList P ops Q rest (a.put o.dst v') w') : wpList P ops Q (o :: rest) a w := by
  subst ht
  refine wpList_plain hgd fun K hK => ?_
  unfold Oper.wp execOp
  simp only [ho, resolve, invoke, builtin, Sem.run_bind, Sem.run_pure, Result.andThen_ok, List.map_toArray, List.map_cons, List.map_nil, hs, hx, hr]
  exact hK _ _ h
end Go.Proofs.Ytjnojomfaikfjaa
