/- fix.Add: sums that do not run over. -/
import Derived.Test.YtjnojomfaikfjaaProg
import Derived.WalkKit
import Derived.WalkSpells
import Derived.WalkLawsBesides
import Derived.Lib.Hide
import Derived.Outline
import Derived.Laws.Externs
import Derived.LoopTactic
import Derived.Test.YtjnojomfaikfjaaWLast
import Derived.Test.YtjnojomfaikfjaaBase
import Derived.Test.YtjnojomfaikfjaaNum
namespace Go.Proofs.Ytjnojomfaikfjaa
set_option linter.unusedSimpArgs false
set_option linter.unusedVariables false
open Go.RowKit Go.Proofs.YtjnojomfaikfjaaW.PrintLast
theorem add64_in (x y : Int) (hx : U64 x) (hy : U64 y) (h : x + y ≤ M64) (w : World) : (callFunc 102 #[.int .u64 x, .int .u64 y, .int .u64 0]).run Try.prog w = .ok (.value (.tuple #[.int .u64 (x + y), .int .u64 0])) w := by
  obtain ⟨hx0, hx1⟩ := hx
  obtain ⟨hy0, hy1⟩ := hy
  unfold M64 at h
  obtain ⟨x, rfl⟩ := Int.eq_ofNat_of_zero_le hx0
  obtain ⟨y, rfl⟩ := Int.eq_ofNat_of_zero_le hy0
  rw [run_callFunc_extern Try.func102 (by kernel_rfl) (by kernel_rfl) (by kernel_rfl) (e := add64Entry) (by kernel_rfl), run_add64 x y 0 (by omega) (by omega) (by omega) (by omega)]
  have e1 : ((x : Int) + y + 0) % 18446744073709551616 = x + y := by omega
  have e2 : ((x : Int) + y + 0) / 18446744073709551616 = 0 := by omega
  rw [e1, e2]; rfl
theorem add64_out (x y : Int) (hx : U64 x) (hy : U64 y) (h : M64 < x + y) (w : World) : (callFunc 102 #[.int .u64 x, .int .u64 y, .int .u64 0]).run Try.prog w = .ok (.value (.tuple #[.int .u64 (x + y - 18446744073709551616), .int .u64 1])) w := by
  obtain ⟨hx0, hx1⟩ := hx
  obtain ⟨hy0, hy1⟩ := hy
  unfold M64 at h
  obtain ⟨x, rfl⟩ := Int.eq_ofNat_of_zero_le hx0
  obtain ⟨y, rfl⟩ := Int.eq_ofNat_of_zero_le hy0
  rw [run_callFunc_extern Try.func102 (by kernel_rfl) (by kernel_rfl) (by kernel_rfl) (e := add64Entry) (by kernel_rfl), run_add64 x y 0 (by omega) (by omega) (by omega) (by omega)]
  have e1 : ((x : Int) + y + 0) % 18446744073709551616 = x + y - 18446744073709551616 := by omega
  have e2 : ((x : Int) + y + 0) / 18446744073709551616 = 1 := by omega
  rw [e1, e2]; rfl
set_option maxHeartbeats 1000000 in
theorem fix_add (g c : Nat) (xs : List Int) (w : World) (hu : ∀ x ∈ xs, U64 x) (hn : xs.length ≤ 1000000) (hc : ∀ k, k < xs.length → w.cell? ⟨g, k, none⟩ = some (.int .u64 (xs[k]?.getD 0))) :
    Calls Try.prog 58 #[.slice (some ⟨g, 0, none⟩) xs.length c] w fun e w' => e = .returned (.int .u64 (sat (tot xs))) ∧ w' = w := by
  have hpos : ∀ x ∈ xs, 0 ≤ x := fun x hx => (hu x hx).1
  go_enter Try.func58, Try.ntmps58
  go_wp2_with (fail)
  go_loop [3, 9] (fun n i => ∃ k : Nat, k ≤ xs.length ∧ i = .int .i64 k ∧ n = .int .u64 (tot (xs.take k)) ∧ tot (xs.take k) ≤ M64) (fun _ i => xs.length - (intOf i).toNat)
  case atStart => exact ⟨0, Nat.zero_le _, rfl, rfl, by simp [tot, M64]⟩
  case round =>
    obtain ⟨k, hk, rfl, rfl, hle⟩ := hrel
    by_cases hlt : k < xs.length
    · have hx : xs[k]?.getD 0 = xs[k] := by simp [hlt]
      have hux := hu xs[k] (List.getElem_mem hlt)
      have hck := hc k hlt
      rw [hx] at hck
      have h0 : 0 ≤ tot (xs.take k) := tot_nonneg fun x hx => hpos x (List.mem_of_mem_take hx)
      have HT : Hid (tot (xs.take (k + 1)) = tot (xs.take k) + xs[k]) := tot_take xs k hlt
      have hut : U64 (tot (xs.take k)) := ⟨h0, hle⟩
      clear hc hu hx
      by_cases ho : tot (xs.take k) + xs[k] ≤ M64
      · have ha := fun W => add64_in (tot (xs.take k)) xs[k] hut hux ho W
        generalize tot (xs.take k) = T at *
        generalize xs[k] = y at *
        clear hpos
        go_wp2
        go_round
        case rel => exact ⟨k + 1, by omega, by go_num, by rw [HT.out], by rw [HT.out]; exact ho⟩
        case measure => simp [intOf]; omega
      · have ho' : M64 < tot (xs.take k) + xs[k] := by omega
        have ha := fun W => add64_out (tot (xs.take k)) xs[k] hut hux ho' W
        have hfin : Hid (sat (tot xs) = 18446744073709551615) := by
          show _ = _
          have h1 := tot_take_le xs (k + 1) hpos
          rw [HT.out] at h1
          unfold sat M64 at *
          rw [if_neg (by omega)]
        generalize tot (xs.take k) = T at *
        generalize xs[k] = y at *
        clear hpos
        go_wp2
        go_ret
        exact ⟨by rw [hfin.out]; rfl, rfl⟩
    · obtain rfl : k = xs.length := by omega
      have hfin : Hid (sat (tot xs) = tot (xs.take xs.length)) := by show _ = _; rw [List.take_length] at hle ⊢; unfold sat; rw [if_pos hle]
      clear hc hu hpos hle
      go_wp2
      go_ret
      exact ⟨by rw [hfin.out, List.take_length]; rfl, rfl⟩
end Go.Proofs.Ytjnojomfaikfjaa
