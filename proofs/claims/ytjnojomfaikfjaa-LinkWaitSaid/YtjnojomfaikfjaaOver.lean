/- goitref01: product, divide, Over. -/
import Derived.Test.YtjnojomfaikfjaaQueueD
namespace Go.Proofs.Ytjnojomfaikfjaa
set_option linter.unusedSimpArgs false
set_option linter.unusedVariables false
open Go.RowKit Go.Proofs.YtjnojomfaikfjaaW.PrintLast
/-- the halves' products -/
theorem halves (p q r s : Nat) : p * 18446744073709551616 + (q + r) * 4294967296 + s = (p + (q + s / 4294967296) / 4294967296 + (r + (q + s / 4294967296) % 4294967296) / 4294967296) * 18446744073709551616 + ((r + (q + s / 4294967296) % 4294967296) % 4294967296 * 4294967296 + s % 4294967296) := by omega
theorem split_mul (x y : Nat) : x * y = x / 4294967296 * (y / 4294967296) * 18446744073709551616 + (x / 4294967296 * (y % 4294967296) + x % 4294967296 * (y / 4294967296)) * 4294967296 + x % 4294967296 * (y % 4294967296) := by
  have hx : x = x / 4294967296 * 4294967296 + x % 4294967296 := by omega
  have hy : y = y / 4294967296 * 4294967296 + y % 4294967296 := by omega
  generalize x / 4294967296 = a at *
  generalize x % 4294967296 = b at *
  generalize y / 4294967296 = c at *
  generalize y % 4294967296 = d at *
  subst hx hy
  rw [Nat.add_mul, Nat.mul_add, Nat.mul_add]
  have e1 : a * 4294967296 * (c * 4294967296) = a * c * 18446744073709551616 := by rw [Nat.mul_mul_mul_comm]
  have e2 : a * 4294967296 * d = a * d * 4294967296 := by rw [Nat.mul_right_comm]
  have e3 : b * (c * 4294967296) = b * c * 4294967296 := by rw [Nat.mul_assoc]
  rw [e1, e2, e3]
  omega
theorem tmodN (x : Nat) : (x : Int).tmod 4294967296 = ((x % 4294967296 : Nat) : Int) := by
  rw [Int.tmod_eq_emod_of_nonneg (by omega)]; rfl
theorem tdivN (x : Nat) : (x : Int).tdiv 4294967296 = ((x / 4294967296 : Nat) : Int) := by
  rw [Int.tdiv_eq_ediv_of_nonneg (by omega)]; rfl
theorem low_lt (a b : Nat) : a % 4294967296 * 4294967296 + b % 4294967296 < 18446744073709551616 := by omega
theorem u64n (n : Nat) (h : n < 18446744073709551616) : IntKind.u64.wrap (n : Int) = n := by simp [IntKind.wrap, IntKind.signed, IntKind.bits]; omega
theorem u64na (a b : Nat) (h : a + b < 18446744073709551616) : IntKind.u64.wrap ((a : Int) + (b : Int)) = ((a + b : Nat) : Int) := by rw [← Int.natCast_add]; exact u64n _ h
theorem u64nm (a : Nat) (h : a * 4294967296 < 18446744073709551616) : IntKind.u64.wrap ((a : Int) * 4294967296) = ((a * 4294967296 : Nat) : Int) := by
  have : ((a : Int) * 4294967296) = ((a * 4294967296 : Nat) : Int) := by rw [Int.natCast_mul]; rfl
  rw [this]; exact u64n _ h
set_option maxHeartbeats 2000000 in
set_option maxRecDepth 100000 in
theorem ref_product (x y : Nat) (hx : x < 18446744073709551616) (hy : y < 18446744073709551616) (w : World) :
    Calls Try.prog 63 #[.int .u64 x, .int .u64 y] w fun e w' => e = .returned (.tuple #[.int .u64 ((x * y / 18446744073709551616 : Nat) : Int), .int .u64 ((x * y % 18446744073709551616 : Nat) : Int)]) ∧ w' = w := by
  have ba := Lib.half_mul_le (a := x / 4294967296) (b := y / 4294967296) (by omega) (by omega)
  have bb := Lib.half_mul_le (a := x / 4294967296) (b := y % 4294967296) (by omega) (by omega)
  have bc := Lib.half_mul_le (a := x % 4294967296) (b := y / 4294967296) (by omega) (by omega)
  have bd := Lib.half_mul_le (a := x % 4294967296) (b := y % 4294967296) (by omega) (by omega)
  go_enter Try.func63, Try.ntmps63
  go_wp2
  have e1 : ((x : Int) / 4294967296 * ((y : Int) / 4294967296)) = ((x / 4294967296 * (y / 4294967296) : Nat) : Int) := by rw [Int.natCast_mul]; rfl
  have e2 : ((x : Int) / 4294967296 * ((y : Int) % 4294967296)) = ((x / 4294967296 * (y % 4294967296) : Nat) : Int) := by rw [Int.natCast_mul]; rfl
  have e3 : ((x : Int) % 4294967296 * ((y : Int) / 4294967296)) = ((x % 4294967296 * (y / 4294967296) : Nat) : Int) := by rw [Int.natCast_mul]; rfl
  have e4 : ((x : Int) % 4294967296 * ((y : Int) % 4294967296)) = ((x % 4294967296 * (y % 4294967296) : Nat) : Int) := by rw [Int.natCast_mul]; rfl
  rw [e1, e2, e3, e4]
  have hm := (split_mul x y).trans (halves _ _ _ _)
  rw [hm]
  clear hm e1 e2 e3 e4
  generalize x / 4294967296 * (y / 4294967296) = p at *
  generalize x / 4294967296 * (y % 4294967296) = q at *
  generalize x % 4294967296 * (y / 4294967296) = r at *
  generalize x % 4294967296 * (y % 4294967296) = s at *
  have bp : p < 18446744073709551616 := by omega
  have bq : q < 18446744073709551616 := by omega
  have br : r < 18446744073709551616 := by omega
  have bs : s < 18446744073709551616 := by omega
  have b1 : s / 4294967296 < 18446744073709551616 := by omega
  have b2 : q + s / 4294967296 < 18446744073709551616 := by omega
  have b3 : (q + s / 4294967296) / 4294967296 < 18446744073709551616 := by omega
  have b4 : r + (q + s / 4294967296) % 4294967296 < 18446744073709551616 := by omega
  have b5 : (r + (q + s / 4294967296) % 4294967296) / 4294967296 < 18446744073709551616 := by omega
  have b6 : p + (q + s / 4294967296) / 4294967296 < 18446744073709551616 := by omega
  have b7 : p + (q + s / 4294967296) / 4294967296 + (r + (q + s / 4294967296) % 4294967296) / 4294967296 < 18446744073709551616 := by omega
  have b8 : (r + (q + s / 4294967296) % 4294967296) % 4294967296 * 4294967296 < 18446744073709551616 := by omega
  have b9 : (r + (q + s / 4294967296) % 4294967296) % 4294967296 * 4294967296 + s % 4294967296 < 18446744073709551616 := low_lt _ _
  have h1 : ((p + (q + s / 4294967296) / 4294967296 + (r + (q + s / 4294967296) % 4294967296) / 4294967296) * 18446744073709551616 + ((r + (q + s / 4294967296) % 4294967296) % 4294967296 * 4294967296 + s % 4294967296)) / 18446744073709551616 = p + (q + s / 4294967296) / 4294967296 + (r + (q + s / 4294967296) % 4294967296) / 4294967296 := by omega
  have h2 : ((p + (q + s / 4294967296) / 4294967296 + (r + (q + s / 4294967296) % 4294967296) / 4294967296) * 18446744073709551616 + ((r + (q + s / 4294967296) % 4294967296) % 4294967296 * 4294967296 + s % 4294967296)) % 18446744073709551616 = (r + (q + s / 4294967296) % 4294967296) % 4294967296 * 4294967296 + s % 4294967296 := by omega
  rw [h1, h2]
  simp only [u64n p bp, u64n q bq, u64n r br, u64n s bs, tdivN, tmodN, u64n _ b1, u64na _ _ b2, u64n _ b3, u64na _ _ b4, u64n _ b5, u64na _ _ b6, u64na _ _ b7, u64nm _ b8, u64na _ _ b9]
  go_ret2
  exact ⟨rfl, rfl⟩
/-- a round of the long division: the bits that have come, as q c + r; what is left to come -/
structure Div (N c i M q r lo : Nat) : Prop where
  come : N * 2 ^ i = M * 18446744073709551616 + lo
  lo_ : lo < 18446744073709551616
  eq_ : M = q * c + r
  r_ : r < c
theorem pow_le {i : Nat} (h : i ≤ 64) : 2 ^ i ≤ 18446744073709551616 := by
  have : (2 : Nat) ^ 64 = 18446744073709551616 := by decide
  rw [← this]
  exact Nat.pow_le_pow_right (by decide) h
theorem Div.q_lt {N c i M q r lo : Nat} (h : Div N c i M q r lo) (hi : i ≤ 64) (hN : N < c * 18446744073709551616) : q < 18446744073709551616 := by
  have h1 := Nat.mul_le_mul_left N (pow_le hi)
  have h2 := h.come
  have h3 : M ≤ N := by omega
  have h4 := h.eq_
  have h5 : q * c < 18446744073709551616 * c := by rw [Nat.mul_comm 18446744073709551616 c]; omega
  exact Nat.lt_of_mul_lt_mul_right h5
theorem Div.step {N c i M q r lo b : Nat} (h : Div N c i M q r lo) (hb : b = if 9223372036854775808 ≤ lo then 1 else 0) :
    Div N c (i + 1) (2 * M + b) (if c ≤ 2 * r + b then 2 * q + 1 else 2 * q) (if c ≤ 2 * r + b then 2 * r + b - c else 2 * r + b) (2 * lo - b * 18446744073709551616) := by
  have h1 := h.come
  have h2 := h.lo_
  have h3 := h.eq_
  have h4 := h.r_
  have e : N * 2 ^ (i + 1) = 2 * (N * 2 ^ i) := by rw [Nat.pow_succ]; rw [← Nat.mul_assoc, Nat.mul_comm]
  refine ⟨?_, ?_, ?_, ?_⟩
  · rw [e, h1]; split at hb <;> subst hb <;> omega
  · split at hb <;> subst hb <;> omega
  · rw [h3]
    have e2 : 2 * q * c = 2 * (q * c) := Nat.mul_assoc _ _ _
    split
    · rw [Nat.add_mul, Nat.one_mul, e2]; omega
    · rw [e2]; omega
  · split at hb <;> subst hb <;> split <;> omega
theorem Div.fin {N c M q r lo : Nat} (h : Div N c 64 M q r lo) : N = q * c + r := by
  have h1 := h.come
  have h2 := h.lo_
  have h3 := h.eq_
  have : (2 : Nat) ^ 64 = 18446744073709551616 := by decide
  rw [this] at h1
  omega
theorem wrapc (a n m : Int) (h : a = n + m * 18446744073709551616) (h0 : 0 ≤ n) (h1 : n < 18446744073709551616) : IntKind.u64.wrap a = n := by
  subst h
  simp [IntKind.wrap, IntKind.signed, IntKind.bits]; omega
set_option maxHeartbeats 4000000 in
set_option maxRecDepth 100000 in
theorem ref_divide (hi lo c : Nat) (hh : hi < c) (hl : lo < 18446744073709551616) (hc : c < 18446744073709551616) (w : World) :
    Calls Try.prog 64 #[.int .u64 hi, .int .u64 lo, .int .u64 c] w fun e w' => (∃ q r : Nat, e = .returned (.tuple #[.int .u64 q, .int .u64 r]) ∧ hi * 18446744073709551616 + lo = q * c + r ∧ r < c ∧ q < 18446744073709551616) ∧ w' = w := by
  have hN : hi * 18446744073709551616 + lo < c * 18446744073709551616 := by omega
  go_enter Try.func64, Try.ntmps64
  go_wp2_with (fail)
  go_loop [1, 8, 9, 10] (fun l q r i => ∃ k M Q R L : Nat, k ≤ 64 ∧ i = .int .i64 k ∧ l = .int .u64 L ∧ q = .int .u64 Q ∧ r = .int .u64 R ∧ Div (hi * 18446744073709551616 + lo) c k M Q R L) (fun _ _ _ i => 64 - (intOf i).toNat)
  case atStart => exact ⟨0, hi, 0, hi, lo, by omega, rfl, rfl, rfl, rfl, ⟨by omega, hl, by omega, hh⟩⟩
  case round =>
    obtain ⟨k, M, Q, R, L, hk, rfl, rfl, rfl, rfl, D⟩ := hrel
    have dl := D.lo_
    have dr := D.r_
    by_cases hlt : k < 64
    · have hlt' : (k : Int) < 64 := by omega
      have hk1 : Hid (k + 1 ≤ 64) := (by omega : k + 1 ≤ 64)
      have hj2 : Hid (64 - (wrap64 ((k : Int) + 1)).toNat < 64 - k) := (by rw [i64w ((k : Int) + 1) (by omega) (by omega)]; omega : 64 - (wrap64 ((k : Int) + 1)).toNat < 64 - k)
      have hj3 : Hid (wrap64 ((k : Int) + 1) = ((k + 1 : Nat) : Int)) := (by rw [i64w ((k : Int) + 1) (by omega) (by omega)]; omega : wrap64 ((k : Int) + 1) = ((k + 1 : Nat) : Int))
      by_cases o : 9223372036854775808 ≤ R
      · by_cases bt : 9223372036854775808 ≤ L
        · skip
          have hb : 1 = if 9223372036854775808 ≤ L then 1 else 0 := by rw [if_pos (by omega)]
          have S := D.step hb
          rw [if_pos (by omega), if_pos (by omega)] at S
          have sq := S.q_lt (by omega) hN
          have lo2 := S.lo_
          have v0 :  (9223372036854775808 ≤ (R : Int)) := by omega
          have v1 :  (9223372036854775808 ≤ (L : Int)) := by omega
          have z1 : Hid ((2 * (Q : Int)) = ((2 * Q : Nat) : Int)) := (by omega : (2 * (Q : Int)) = ((2 * Q : Nat) : Int))
          have w1 : _ ∧ True := ⟨wrapc (2 * (R : Int)) (2 * (R : Int) - 18446744073709551616) 1 (by omega) (by omega) (by omega), trivial⟩
          have w2 : _ ∧ True := ⟨wrapc (2 * (R : Int) - 18446744073709551616 + 1) (2 * (R : Int) - 18446744073709551616 + 1) 0 (by omega) (by omega) (by omega), trivial⟩
          have w3 : _ ∧ True := ⟨wrapc (2 * (L : Int)) ((2 * L - 1 * 18446744073709551616 : Nat) : Int) 1 (by omega) (by omega) (by omega), trivial⟩
          have w4 : _ ∧ True := ⟨wrapc (2 * (Q : Int)) (2 * (Q : Int)) 0 (by omega) (by omega) (by omega), trivial⟩
          have w5 : _ ∧ True := ⟨wrapc (2 * (R : Int) - 18446744073709551616 + 1 - (c : Int)) ((2 * R + 1 - c : Nat) : Int) (-1) (by omega) (by omega) (by omega), trivial⟩
          have w6 : _ ∧ True := ⟨wrapc (2 * (Q : Int) + 1) ((2 * Q + 1 : Nat) : Int) 0 (by omega) (by omega) (by omega), trivial⟩
          have w1 := w1.1
          have w2 := w2.1
          have w3 := w3.1
          have w4 := w4.1
          have w5 := w5.1
          have w6 := w6.1
          replace S : Hid _ := S
          clear hb dl dr sq lo2 D hlt hk hN hh hl hc
          go_wp2_with (fail)
          clear w1 w2 w3 w4 w5 w6
          go_round
          case rel => exact ⟨k + 1, _, _, _, _, hk1.out, by first | rw [hj3.out] | go_num, rfl, rfl, rfl, S.out⟩
          case measure => first | simpa [intOf] using hj2.out | (simp [intOf]; omega)
        · skip
          have hb : 0 = if 9223372036854775808 ≤ L then 1 else 0 := by rw [if_neg (by omega)]
          have S := D.step hb
          rw [if_pos (by omega), if_pos (by omega)] at S
          have sq := S.q_lt (by omega) hN
          have lo2 := S.lo_
          have v0 :  (9223372036854775808 ≤ (R : Int)) := by omega
          have v1 : ¬ (9223372036854775808 ≤ (L : Int)) := by omega
          have z1 : Hid ((2 * (Q : Int)) = ((2 * Q : Nat) : Int)) := (by omega : (2 * (Q : Int)) = ((2 * Q : Nat) : Int))
          have w1 : _ ∧ True := ⟨wrapc (2 * (R : Int)) (2 * (R : Int) - 18446744073709551616) 1 (by omega) (by omega) (by omega), trivial⟩
          have w3 : _ ∧ True := ⟨wrapc (2 * (L : Int)) ((2 * L - 0 * 18446744073709551616 : Nat) : Int) 0 (by omega) (by omega) (by omega), trivial⟩
          have w4 : _ ∧ True := ⟨wrapc (2 * (Q : Int)) (2 * (Q : Int)) 0 (by omega) (by omega) (by omega), trivial⟩
          have w5 : _ ∧ True := ⟨wrapc (2 * (R : Int) - 18446744073709551616 - (c : Int)) ((2 * R + 0 - c : Nat) : Int) (-1) (by omega) (by omega) (by omega), trivial⟩
          have w6 : _ ∧ True := ⟨wrapc (2 * (Q : Int) + 1) ((2 * Q + 1 : Nat) : Int) 0 (by omega) (by omega) (by omega), trivial⟩
          have w1 := w1.1
          have w3 := w3.1
          have w4 := w4.1
          have w5 := w5.1
          have w6 := w6.1
          replace S : Hid _ := S
          clear hb dl dr sq lo2 D hlt hk hN hh hl hc
          go_wp2_with (fail)
          clear w1 w3 w4 w5 w6
          go_round
          case rel => exact ⟨k + 1, _, _, _, _, hk1.out, by first | rw [hj3.out] | go_num, rfl, rfl, rfl, S.out⟩
          case measure => first | simpa [intOf] using hj2.out | (simp [intOf]; omega)
      · by_cases bt : 9223372036854775808 ≤ L
        · by_cases cm : c ≤ 2 * R + 1
          · skip
            have hb : 1 = if 9223372036854775808 ≤ L then 1 else 0 := by rw [if_pos (by omega)]
            have S := D.step hb
            rw [if_pos (by omega), if_pos (by omega)] at S
            have sq := S.q_lt (by omega) hN
            have lo2 := S.lo_
            have v0 : ¬ (9223372036854775808 ≤ (R : Int)) := by omega
            have v1 :  (9223372036854775808 ≤ (L : Int)) := by omega
            have v2 :  ((c : Int) ≤ 2 * (R : Int) + 1) := by omega
            have z1 : Hid ((2 * (Q : Int)) = ((2 * Q : Nat) : Int)) := (by omega : (2 * (Q : Int)) = ((2 * Q : Nat) : Int))
            have w1 : _ ∧ True := ⟨wrapc (2 * (R : Int)) (2 * (R : Int)) 0 (by omega) (by omega) (by omega), trivial⟩
            have w2 : _ ∧ True := ⟨wrapc (2 * (R : Int) + 1) (2 * (R : Int) + 1) 0 (by omega) (by omega) (by omega), trivial⟩
            have w3 : _ ∧ True := ⟨wrapc (2 * (L : Int)) ((2 * L - 1 * 18446744073709551616 : Nat) : Int) 1 (by omega) (by omega) (by omega), trivial⟩
            have w4 : _ ∧ True := ⟨wrapc (2 * (Q : Int)) (2 * (Q : Int)) 0 (by omega) (by omega) (by omega), trivial⟩
            have w5 : _ ∧ True := ⟨wrapc (2 * (R : Int) + 1 - (c : Int)) ((2 * R + 1 - c : Nat) : Int) 0 (by omega) (by omega) (by omega), trivial⟩
            have w6 : _ ∧ True := ⟨wrapc (2 * (Q : Int) + 1) ((2 * Q + 1 : Nat) : Int) 0 (by omega) (by omega) (by omega), trivial⟩
            have w1 := w1.1
            have w2 := w2.1
            have w3 := w3.1
            have w4 := w4.1
            have w5 := w5.1
            have w6 := w6.1
            replace S : Hid _ := S
            clear hb dl dr sq lo2 D hlt hk hN hh hl hc
            go_wp2_with (fail)
            clear w1 w2 w3 w4 w5 w6
            go_round
            case rel => exact ⟨k + 1, _, _, _, _, hk1.out, by first | rw [hj3.out] | go_num, rfl, rfl, rfl, S.out⟩
            case measure => first | simpa [intOf] using hj2.out | (simp [intOf]; omega)
          · skip
            have hb : 1 = if 9223372036854775808 ≤ L then 1 else 0 := by rw [if_pos (by omega)]
            have S := D.step hb
            rw [if_neg (by omega), if_neg (by omega)] at S
            have sq := S.q_lt (by omega) hN
            have lo2 := S.lo_
            have v0 : ¬ (9223372036854775808 ≤ (R : Int)) := by omega
            have v1 :  (9223372036854775808 ≤ (L : Int)) := by omega
            have v2 : ¬ ((c : Int) ≤ 2 * (R : Int) + 1) := by omega
            have z1 : Hid ((2 * (Q : Int)) = ((2 * Q : Nat) : Int)) := (by omega : (2 * (Q : Int)) = ((2 * Q : Nat) : Int))
            have z2 : Hid ((2 * (R : Int) + 1) = ((2 * R + 1 : Nat) : Int)) := (by omega : (2 * (R : Int) + 1) = ((2 * R + 1 : Nat) : Int))
            have w1 : _ ∧ True := ⟨wrapc (2 * (R : Int)) (2 * (R : Int)) 0 (by omega) (by omega) (by omega), trivial⟩
            have w2 : _ ∧ True := ⟨wrapc (2 * (R : Int) + 1) (2 * (R : Int) + 1) 0 (by omega) (by omega) (by omega), trivial⟩
            have w3 : _ ∧ True := ⟨wrapc (2 * (L : Int)) ((2 * L - 1 * 18446744073709551616 : Nat) : Int) 1 (by omega) (by omega) (by omega), trivial⟩
            have w4 : _ ∧ True := ⟨wrapc (2 * (Q : Int)) (2 * (Q : Int)) 0 (by omega) (by omega) (by omega), trivial⟩
            have w1 := w1.1
            have w2 := w2.1
            have w3 := w3.1
            have w4 := w4.1
            replace S : Hid _ := S
            clear hb dl dr sq lo2 D hlt hk hN hh hl hc
            go_wp2_with (fail)
            clear w1 w2 w3 w4
            go_round
            case rel => exact ⟨k + 1, _, _, _, _, hk1.out, by first | rw [hj3.out] | go_num, rfl, by rw [z1.out], by rw [z2.out], S.out⟩
            case measure => first | simpa [intOf] using hj2.out | (simp [intOf]; omega)
        · by_cases cm : c ≤ 2 * R + 0
          · skip
            have hb : 0 = if 9223372036854775808 ≤ L then 1 else 0 := by rw [if_neg (by omega)]
            have S := D.step hb
            rw [if_pos (by omega), if_pos (by omega)] at S
            have sq := S.q_lt (by omega) hN
            have lo2 := S.lo_
            have v0 : ¬ (9223372036854775808 ≤ (R : Int)) := by omega
            have v1 : ¬ (9223372036854775808 ≤ (L : Int)) := by omega
            have v2 :  ((c : Int) ≤ 2 * (R : Int)) := by omega
            have z1 : Hid ((2 * (Q : Int)) = ((2 * Q : Nat) : Int)) := (by omega : (2 * (Q : Int)) = ((2 * Q : Nat) : Int))
            have w1 : _ ∧ True := ⟨wrapc (2 * (R : Int)) (2 * (R : Int)) 0 (by omega) (by omega) (by omega), trivial⟩
            have w3 : _ ∧ True := ⟨wrapc (2 * (L : Int)) ((2 * L - 0 * 18446744073709551616 : Nat) : Int) 0 (by omega) (by omega) (by omega), trivial⟩
            have w4 : _ ∧ True := ⟨wrapc (2 * (Q : Int)) (2 * (Q : Int)) 0 (by omega) (by omega) (by omega), trivial⟩
            have w5 : _ ∧ True := ⟨wrapc (2 * (R : Int) - (c : Int)) ((2 * R + 0 - c : Nat) : Int) 0 (by omega) (by omega) (by omega), trivial⟩
            have w6 : _ ∧ True := ⟨wrapc (2 * (Q : Int) + 1) ((2 * Q + 1 : Nat) : Int) 0 (by omega) (by omega) (by omega), trivial⟩
            have w1 := w1.1
            have w3 := w3.1
            have w4 := w4.1
            have w5 := w5.1
            have w6 := w6.1
            replace S : Hid _ := S
            clear hb dl dr sq lo2 D hlt hk hN hh hl hc
            go_wp2_with (fail)
            clear w1 w3 w4 w5 w6
            go_round
            case rel => exact ⟨k + 1, _, _, _, _, hk1.out, by first | rw [hj3.out] | go_num, rfl, rfl, rfl, S.out⟩
            case measure => first | simpa [intOf] using hj2.out | (simp [intOf]; omega)
          · skip
            have hb : 0 = if 9223372036854775808 ≤ L then 1 else 0 := by rw [if_neg (by omega)]
            have S := D.step hb
            rw [if_neg (by omega), if_neg (by omega)] at S
            have sq := S.q_lt (by omega) hN
            have lo2 := S.lo_
            have v0 : ¬ (9223372036854775808 ≤ (R : Int)) := by omega
            have v1 : ¬ (9223372036854775808 ≤ (L : Int)) := by omega
            have v2 : ¬ ((c : Int) ≤ 2 * (R : Int)) := by omega
            have z1 : Hid ((2 * (Q : Int)) = ((2 * Q : Nat) : Int)) := (by omega : (2 * (Q : Int)) = ((2 * Q : Nat) : Int))
            have z2 : Hid ((2 * (R : Int)) = ((2 * R + 0 : Nat) : Int)) := (by omega : (2 * (R : Int)) = ((2 * R + 0 : Nat) : Int))
            have w1 : _ ∧ True := ⟨wrapc (2 * (R : Int)) (2 * (R : Int)) 0 (by omega) (by omega) (by omega), trivial⟩
            have w3 : _ ∧ True := ⟨wrapc (2 * (L : Int)) ((2 * L - 0 * 18446744073709551616 : Nat) : Int) 0 (by omega) (by omega) (by omega), trivial⟩
            have w4 : _ ∧ True := ⟨wrapc (2 * (Q : Int)) (2 * (Q : Int)) 0 (by omega) (by omega) (by omega), trivial⟩
            have w1 := w1.1
            have w3 := w3.1
            have w4 := w4.1
            replace S : Hid _ := S
            clear hb dl dr sq lo2 D hlt hk hN hh hl hc
            go_wp2_with (fail)
            clear w1 w3 w4
            go_round
            case rel => exact ⟨k + 1, _, _, _, _, hk1.out, by first | rw [hj3.out] | go_num, rfl, by rw [z1.out], by rw [z2.out], S.out⟩
            case measure => first | simpa [intOf] using hj2.out | (simp [intOf]; omega)
    · obtain rfl : k = 64 := by omega
      have hq := D.q_lt (by omega) hN
      have hf := D.fin
      clear D hN
      go_wp2
      go_ret2
      first | exact ⟨⟨Q, R, rfl, hf, dr, hq⟩, rfl⟩ | exact ⟨⟨Q, R, rfl, rfl, dr, hq⟩, rfl⟩
theorem radd (a b : Int) (w : World) (ha : U64 a) (hb : U64 b) : Calls Try.prog 23 #[.int .u64 a, .int .u64 b] w fun e w' => e = .returned (.int .u64 (sat (a + b))) ∧ w' = w := by
  have k1 := u64sub 18446744073709551615 b ⟨by decide, by decide⟩ hb hb.2
  by_cases h : a + b ≤ 18446744073709551615
  · have h1 : ¬ (18446744073709551615 - b < a) := by omega
    have hs : Hid (sat (a + b) = a + b) := sat_id h
    have k2 := u64add a b ha hb h
    go_enter Try.func23, Try.ntmps23
    go_wp2
    go_ret
    exact ⟨by rw [hs.out]; rfl, rfl⟩
  · have h1 : 18446744073709551615 - b < a := by omega
    have hs : Hid (sat (a + b) = 18446744073709551615) := by show _ = _; unfold sat M64; rw [if_neg h]
    go_enter Try.func23, Try.ntmps23
    go_wp2
    go_ret
    exact ⟨by rw [hs.out]; rfl, rfl⟩
set_option maxHeartbeats 1000000 in
set_option maxRecDepth 100000 in
theorem ref_over (x y c : Nat) (hx : x < 18446744073709551616) (hy : y < 18446744073709551616) (hc : c < 18446744073709551616) (h0 : 0 < c) (w : World) :
    Calls Try.prog 20 #[.int .u64 x, .int .u64 y, .int .u64 c] w fun e w' => (∃ f : Nat, e = .returned (.int .u64 f) ∧ ∀ m : Nat, m ≤ x * y → (m + c - 1) / c ≤ 18446744073709551615 → (m + c - 1) / c ≤ f) ∧ w' = w := by
  have hp := ref_product x y hx hy w
  have hxy : x * y < 18446744073709551616 * 18446744073709551616 := Nat.mul_lt_mul'' hx hy
  have hsum : x * y = x * y / 18446744073709551616 * 18446744073709551616 + x * y % 18446744073709551616 := by omega
  have hlo : x * y % 18446744073709551616 < 18446744073709551616 := by omega
  generalize x * y / 18446744073709551616 = hi at *
  generalize x * y % 18446744073709551616 = lo at *
  go_enter Try.func20, Try.ntmps20
  go_wp2_with (fail)
  refine hp.mono ?_
  rintro e w1 ⟨rfl, hw⟩
  obtain rfl := hw.symm
  clear hp
  by_cases hge : c ≤ hi
  · have h1 : (c : Int) ≤ (hi : Int) := by omega
    have hfin : Hid (∀ m : Nat, m ≤ x * y → (m + c - 1) / c ≤ 18446744073709551615 → (m + c - 1) / c ≤ 18446744073709551615) := fun m _ h => h
    clear hge hsum
    go_wp2_with (fail)
    go_ret
    exact ⟨⟨18446744073709551615, rfl, hfin.out⟩, rfl⟩
  · have h1 : ¬ ((c : Int) ≤ (hi : Int)) := by omega
    have hd := ref_divide hi lo c (by omega) hlo hc w
    clear hge
    go_wp2_with (fail)
    refine hd.mono ?_
    rintro e w1 ⟨⟨q, r, rfl, hq, hr, hql⟩, hw⟩
    obtain rfl := hw.symm
    clear hd
    have hfin : Hid (∀ m : Nat, m ≤ x * y → (m + c - 1) / c ≤ (if r = 0 then q else q + 1)) := by
      intro m hm
      rw [hsum, hq] at hm
      split
      · rename_i hr0
        subst hr0
        have : m + c - 1 < (q + 1) * c := by rw [Nat.add_mul]; omega
        have := (Nat.div_lt_iff_lt_mul h0).2 this
        omega
      · have : m + c - 1 < (q + 1 + 1) * c := by rw [Nat.add_mul, Nat.add_mul]; omega
        have := (Nat.div_lt_iff_lt_mul h0).2 this
        omega
    by_cases hr0 : r = 0
    · subst hr0
      have hf2 : Hid (∀ m : Nat, m ≤ x * y → (m + c - 1) / c ≤ 18446744073709551615 → (m + c - 1) / c ≤ q) := fun m h _ => by have := hfin.out m h; simpa using this
      clear hsum hq hfin
      go_wp2_with (fail)
      go_ret
      exact ⟨⟨q, rfl, hf2.out⟩, rfl⟩
    · have hr1 : (0 : Int) < (r : Int) := by omega
      have hra := radd (q : Int) 1 w ⟨by omega, by omega⟩ ⟨by decide, by decide⟩
      have hs : ∃ f : Nat, Hid (sat ((q : Int) + 1) = (f : Int)) ∧ Hid (∀ m : Nat, m ≤ x * y → (m + c - 1) / c ≤ 18446744073709551615 → (m + c - 1) / c ≤ f) := by
        by_cases hm : q + 1 ≤ 18446744073709551615
        · refine ⟨q + 1, (by rw [sat_id (by omega)]; omega : sat ((q : Int) + 1) = ((q + 1 : Nat) : Int)), fun m h _ => ?_⟩
          have := hfin.out m h
          rw [if_neg hr0] at this
          exact this
        · refine ⟨18446744073709551615, (by unfold sat M64; rw [if_neg (by omega)]; rfl : sat ((q : Int) + 1) = ((18446744073709551615 : Nat) : Int)), fun m _ h => h⟩
      obtain ⟨f, hf1, hf2⟩ := hs
      rw [hf1.out] at hra
      replace hra : Hid _ := hra
      clear hsum hq hfin hr0 hxy hlo hr hql hx hy hf1
      have hr2 : decide ((0 : Int) < (r : Int)) = true := decide_eq_true hr1
      generalize (r : Int) = ri at *
      generalize (q : Int) = qi at *
      go_wp2_with (fail)
      have hra3 : Calls Try.prog 23 #[.int .u64 qi, .int .u64 1] w fun e w' => e = .returned (.int .u64 f) ∧ w' = w := hra.out
      refine hra3.mono ?_
      rintro e w1 ⟨rfl, hw⟩
      obtain rfl := hw.symm
      go_wp2_with (fail)
      go_ret
      exact ⟨⟨f, rfl, hf2.out⟩, rfl⟩
theorem over_int (a c m : Int) (ha : U64 a) (hc : U64 c) (h0 : 1 ≤ c) (hm0 : 0 ≤ m) (hma : m ≤ a) (hmm : (m * 1000000 + c - 1) / c ≤ 18446744073709551615) (w : World) :
    Calls Try.prog 20 #[.int .u64 a, .int .u64 1000000, .int .u64 c] w fun e w' => (∃ f : Int, e = .returned (.int .u64 f) ∧ (m * 1000000 + c - 1) / c ≤ f) ∧ w' = w := by
  obtain ⟨an, rfl⟩ := Int.eq_ofNat_of_zero_le ha.1
  obtain ⟨cn, rfl⟩ := Int.eq_ofNat_of_zero_le hc.1
  obtain ⟨mn, rfl⟩ := Int.eq_ofNat_of_zero_le hm0
  have h1 := ha.2
  have h2 := hc.2
  have e1 : ((mn : Int) * 1000000 + cn - 1) = ((mn * 1000000 + cn - 1 : Nat) : Int) := by omega
  rw [e1] at hmm ⊢
  have e2 : (((mn * 1000000 + cn - 1 : Nat) : Int) / (cn : Int)) = (((mn * 1000000 + cn - 1) / cn : Nat) : Int) := rfl
  rw [e2] at hmm ⊢
  have e3 : (1000000 : Int) = ((1000000 : Nat) : Int) := rfl
  rw [e3]
  refine (ref_over an 1000000 cn (by omega) (by decide) (by omega) (by omega) w).mono ?_
  rintro e w' ⟨⟨f, he, hf⟩, hw⟩
  refine ⟨⟨f, he, ?_⟩, hw⟩
  have := hf (mn * 1000000) (Nat.mul_le_mul_right _ (by omega)) (by omega)
  omega
end Go.Proofs.Ytjnojomfaikfjaa
