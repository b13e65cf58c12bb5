/- Plain: numbers of 64 bits, sums that do not run over. -/
namespace Go.Proofs.Ytjnojomfaikfjaa
set_option linter.unusedSimpArgs false
set_option linter.unusedVariables false
def M64 : Int := 18446744073709551615
/-- a uint64 -/
def U64 (a : Int) : Prop := 0 ≤ a ∧ a ≤ 18446744073709551615
def sat (a : Int) : Int := if a ≤ M64 then a else M64
theorem sat_u {a : Int} (h : 0 ≤ a) : U64 (sat a) := by unfold sat U64 M64; split <;> omega
theorem sat_id {a : Int} (h : a ≤ 18446744073709551615) : sat a = a := by unfold sat M64; rw [if_pos h]
theorem sat_le (a : Int) : sat a ≤ a := by unfold sat M64; split <;> omega
def tot : List Int → Int
  | [] => 0
  | x :: l => x + tot l
theorem tot_nonneg : ∀ {l : List Int}, (∀ x ∈ l, 0 ≤ x) → 0 ≤ tot l
  | [], _ => by simp [tot]
  | x :: l, h => by have := h x (by simp); have := tot_nonneg (l := l) (fun y hy => h y (by simp [hy])); simp [tot]; omega
theorem tot_append : ∀ (a b : List Int), tot (a ++ b) = tot a + tot b
  | [], b => by simp [tot]
  | x :: a, b => by simp [tot, tot_append a b]; omega
theorem tot_take (l : List Int) (k : Nat) (h : k < l.length) : tot (l.take (k + 1)) = tot (l.take k) + l[k] := by
  rw [List.take_succ_eq_append_getElem h, tot_append]; simp [tot]
theorem tot_take_le (l : List Int) (k : Nat) (hl : ∀ x ∈ l, 0 ≤ x) : tot (l.take k) ≤ tot l := by
  have e := List.take_append_drop k l
  have : 0 ≤ tot (l.drop k) := tot_nonneg fun x hx => hl x (List.mem_of_mem_drop hx)
  conv => rhs; rw [← e, tot_append]
  omega
/-- a sum, step by step, that does not run over -/
def sadd : Int → List Int → Int
  | n, [] => n
  | n, x :: l => sadd (sat (n + x)) l
theorem sadd_append : ∀ (a b : List Int) (n : Int), sadd n (a ++ b) = sadd (sadd n a) b
  | [], b, n => rfl
  | x :: a, b, n => by simp [sadd, sadd_append a b]
theorem sadd_u : ∀ (l : List Int) (n : Int), U64 n → (∀ x ∈ l, U64 x) → U64 (sadd n l)
  | [], n, h, _ => h
  | x :: l, n, h, hl => by
    have hx := hl x (by simp)
    exact sadd_u l _ (sat_u (by have := h.1; have := hx.1; omega)) (fun y hy => hl y (by simp [hy]))
theorem sadd_sat : ∀ (l : List Int) (n : Int), U64 n → (∀ x ∈ l, 0 ≤ x) → sadd n l = sat (n + tot l)
  | [], n, h, _ => by simp [sadd, tot]; rw [sat_id h.2]
  | x :: l, n, h, hl => by
    have hx := hl x (by simp)
    have ht := tot_nonneg (l := l) (fun y hy => hl y (by simp [hy]))
    rw [sadd, sadd_sat l _ (sat_u (by have := h.1; omega)) (fun y hy => hl y (by simp [hy])), tot]
    unfold sat M64
    split <;> split <;> split <;> omega
theorem sadd_take (l : List Int) (n : Int) (k : Nat) (h : k < l.length) : sadd n (l.take (k + 1)) = sat (sadd n (l.take k) + l[k]) := by
  rw [List.take_succ_eq_append_getElem h, sadd_append]; rfl
end Go.Proofs.Ytjnojomfaikfjaa
