/- fix.Mul: products that do not run over. -/
import Derived.Test.YtjnojomfaikfjaaFixA
import Derived.Shelf.Bits.Mul64
namespace Go.Proofs.Ytjnojomfaikfjaa
set_option linter.unusedSimpArgs false
set_option linter.unusedVariables false
open Go.RowKit Go.Proofs.YtjnojomfaikfjaaW.PrintLast
set_option maxHeartbeats 2000000 in
theorem mul64 (x y : Nat) (hx : x < 18446744073709551616) (hy : y < 18446744073709551616) (w : World) :
    Calls Try.prog 125 #[.int .u64 x, .int .u64 y] w fun e w' => e = .returned (.tuple #[.int .u64 ((x * y / 18446744073709551616 : Nat) : Int), .int .u64 ((x * y % 18446744073709551616 : Nat) : Int)]) ∧ w' = w := by
  obtain ⟨bd, bt, bw, hhi⟩ := Lib.mul64_hi x y hx hy
  have ba := Lib.half_mul_le (a := x / 4294967296) (b := y / 4294967296) (by omega) (by omega)
  have bb := Lib.half_mul_le (a := x / 4294967296) (b := y % 4294967296) (by omega) (by omega)
  have bc := Lib.half_mul_le (a := x % 4294967296) (b := y / 4294967296) (by omega) (by omega)
  have ba' : x / 4294967296 * (y / 4294967296) < 18446744073709551616 := by omega
  have bb' : x / 4294967296 * (y % 4294967296) < 18446744073709551616 := by omega
  have bc' : x % 4294967296 * (y / 4294967296) < 18446744073709551616 := by omega
  have bh1 : x / 4294967296 * (y / 4294967296) + (x / 4294967296 * (y % 4294967296) + x % 4294967296 * (y % 4294967296) / 4294967296) / 4294967296 < 18446744073709551616 := by omega
  have bh : x / 4294967296 * (y / 4294967296) + (x / 4294967296 * (y % 4294967296) + x % 4294967296 * (y % 4294967296) / 4294967296) / 4294967296 + ((x / 4294967296 * (y % 4294967296) + x % 4294967296 * (y % 4294967296) / 4294967296) % 4294967296 + x % 4294967296 * (y / 4294967296)) / 4294967296 < 18446744073709551616 := by omega
  go_enter Try.func125, Try.ntmps125
  go_wp2
  simp only [Go.Proofs.Mul64.maskN x hx, Go.Proofs.Mul64.maskN y hy, Go.Proofs.Mul64.divN, Go.Proofs.Mul64.mulN, Go.Proofs.Mul64.addN, Go.Proofs.Mul64.wrapN _ bd, Go.Proofs.Mul64.wrapN _ bb', Go.Proofs.Mul64.wrapN _ bt, Go.Proofs.Mul64.maskN _ bt, Go.Proofs.Mul64.wrapN _ bc', Go.Proofs.Mul64.wrapN _ bw, Go.Proofs.Mul64.wrapN _ ba', Go.Proofs.Mul64.wrapN _ bh1, Go.Proofs.Mul64.wrapN _ bh, Go.Proofs.Mul64.wrapM (x * y)]
  rw [hhi]
  go_ret2
  exact ⟨rfl, rfl⟩
theorem fix_mul (a b : Int) (w : World) (ha : U64 a) (hb : U64 b) : Calls Try.prog 96 #[.int .u64 a, .int .u64 b] w fun e w' => e = .returned (.int .u64 (sat (a * b))) ∧ w' = w := by
  obtain ⟨ha0, ha1⟩ := ha
  obtain ⟨hb0, hb1⟩ := hb
  obtain ⟨x, rfl⟩ := Int.eq_ofNat_of_zero_le ha0
  obtain ⟨y, rfl⟩ := Int.eq_ofNat_of_zero_le hb0
  have hm := mul64 x y (by omega) (by omega) w
  have hxy : (x : Int) * (y : Int) = ((x * y : Nat) : Int) := (Int.natCast_mul x y).symm
  rw [hxy]
  generalize x * y = p at *
  by_cases h : p < 18446744073709551616
  · have hs : Hid (sat (p : Int) = p) := by show _ = _; unfold sat M64; rw [if_pos (by omega)]
    have e1 : p / 18446744073709551616 = 0 := by omega
    have e2 : p % 18446744073709551616 = p := by omega
    rw [e1, e2] at hm
    clear e1 e2
    go_enter Try.func96, Try.ntmps96
    go_wp2_with (fail)
    refine hm.mono ?_
    rintro e w1 ⟨rfl, rfl⟩
    go_wp2
    go_ret
    exact ⟨by rw [hs.out]; rfl, rfl⟩
  · have hs : Hid (sat (p : Int) = 18446744073709551615) := by show _ = _; unfold sat M64; rw [if_neg (by omega)]
    have e1 : (0 : Int) < ((p / 18446744073709551616 : Nat) : Int) := by omega
    generalize p / 18446744073709551616 = hi at *
    generalize p % 18446744073709551616 = lo at *
    clear h
    go_enter Try.func96, Try.ntmps96
    go_wp2_with (fail)
    refine hm.mono ?_
    rintro e w1 ⟨rfl, rfl⟩
    go_wp2
    go_ret
    exact ⟨by rw [hs.out]; rfl, rfl⟩
end Go.Proofs.Ytjnojomfaikfjaa
