/- Which paths may be: link.Right, goitref18.Right. -/
import Derived.Test.YtjnojomfaikfjaaFixB
namespace Go.Proofs.Ytjnojomfaikfjaa
set_option linter.unusedSimpArgs false
set_option linter.unusedVariables false
open Go.RowKit Go.Proofs.YtjnojomfaikfjaaW.PrintLast
def PathOk (ra de ji bu : Int) : Prop := 1 ≤ ra ∧ ra ≤ 1099511627776 ∧ de ≤ 4398046511104 ∧ ji ≤ 4398046511104 ∧ 1 ≤ bu ∧ bu ≤ 72057594037927936
instance (ra de ji bu : Int) : Decidable (PathOk ra de ji bu) := by unfold PathOk; infer_instance
set_option maxHeartbeats 2000000 in
theorem ref_right (ra de ji bu : Int) (w : World) : Calls Try.prog 11 #[.agg #[.int .u64 ra, .int .u64 de, .int .u64 ji, .int .u64 bu]] w fun e w' => e = .returned (.bool (decide (PathOk ra de ji bu))) ∧ Keeps [] w w' := by
  have K := (Keeps.refl [] w).alloc (.cells #[.int .u64 ra, .int .u64 de, .int .u64 ji, .int .u64 bu] 24)
  by_cases c0 : 1 ≤ ra
  case neg =>
    have n0 : ra < 1 := by omega
    have hd : Hid (decide (PathOk ra de ji bu) = false) := decide_eq_false (by unfold PathOk; omega)
    clear c0
    go_enter Try.func11, Try.ntmps11
    go_wp2
    all_goals (go_ret; exact ⟨by rw [hd.out]; first | rfl | (show Ending.returned (Value.bool (decide _)) = _; simp; omega), K⟩)
  by_cases c1 : ra ≤ 1099511627776
  case neg =>
    have n1 : 1099511627776 < ra := by omega
    have hd : Hid (decide (PathOk ra de ji bu) = false) := decide_eq_false (by unfold PathOk; omega)
    clear c1
    go_enter Try.func11, Try.ntmps11
    go_wp2
    all_goals (go_ret; exact ⟨by rw [hd.out]; first | rfl | (show Ending.returned (Value.bool (decide _)) = _; simp; omega), K⟩)
  by_cases c2 : de ≤ 4398046511104
  case neg =>
    have n2 : 4398046511104 < de := by omega
    have hd : Hid (decide (PathOk ra de ji bu) = false) := decide_eq_false (by unfold PathOk; omega)
    clear c2
    go_enter Try.func11, Try.ntmps11
    go_wp2
    all_goals (go_ret; exact ⟨by rw [hd.out]; first | rfl | (show Ending.returned (Value.bool (decide _)) = _; simp; omega), K⟩)
  by_cases c3 : ji ≤ 4398046511104
  case neg =>
    have n3 : 4398046511104 < ji := by omega
    have hd : Hid (decide (PathOk ra de ji bu) = false) := decide_eq_false (by unfold PathOk; omega)
    clear c3
    go_enter Try.func11, Try.ntmps11
    go_wp2
    all_goals (go_ret; exact ⟨by rw [hd.out]; first | rfl | (show Ending.returned (Value.bool (decide _)) = _; simp; omega), K⟩)
  by_cases c4 : 1 ≤ bu
  case neg =>
    have n4 : bu < 1 := by omega
    have hd : Hid (decide (PathOk ra de ji bu) = false) := decide_eq_false (by unfold PathOk; omega)
    clear c4
    go_enter Try.func11, Try.ntmps11
    go_wp2
    all_goals (go_ret; exact ⟨by rw [hd.out]; first | rfl | (show Ending.returned (Value.bool (decide _)) = _; simp; omega), K⟩)
  by_cases c5 : bu ≤ 72057594037927936
  case neg =>
    have n5 : 72057594037927936 < bu := by omega
    have hd : Hid (decide (PathOk ra de ji bu) = false) := decide_eq_false (by unfold PathOk; omega)
    clear c5
    go_enter Try.func11, Try.ntmps11
    go_wp2
    all_goals (go_ret; exact ⟨by rw [hd.out]; first | rfl | (show Ending.returned (Value.bool (decide _)) = _; simp; omega), K⟩)
  have hd : Hid (decide (PathOk ra de ji bu) = true) := decide_eq_true (by unfold PathOk; omega)
  go_enter Try.func11, Try.ntmps11
  go_wp2
  all_goals (go_ret; exact ⟨by rw [hd.out]; first | rfl | (show Ending.returned (Value.bool (decide _)) = _; simp; omega), K⟩)
set_option maxHeartbeats 2000000 in
theorem link_right (ra de ji bu : Int) (w : World) : Calls Try.prog 22 #[.agg #[.int .u64 ra, .int .u64 de, .int .u64 ji, .int .u64 bu]] w fun e w' => e = .returned (.bool (decide (PathOk ra de ji bu))) ∧ Keeps [] w w' := by
  have K := (Keeps.refl [] w).alloc (.cells #[.int .u64 ra, .int .u64 de, .int .u64 ji, .int .u64 bu] 24)
  by_cases c0 : 1 ≤ ra
  case neg =>
    have n0 : ra < 1 := by omega
    have hd : Hid (decide (PathOk ra de ji bu) = false) := decide_eq_false (by unfold PathOk; omega)
    clear c0
    go_enter Try.func22, Try.ntmps22
    go_wp2
    all_goals (go_ret; exact ⟨by rw [hd.out]; first | rfl | (show Ending.returned (Value.bool (decide _)) = _; simp; omega), K⟩)
  by_cases c1 : ra ≤ 1099511627776
  case neg =>
    have n1 : 1099511627776 < ra := by omega
    have hd : Hid (decide (PathOk ra de ji bu) = false) := decide_eq_false (by unfold PathOk; omega)
    clear c1
    go_enter Try.func22, Try.ntmps22
    go_wp2
    all_goals (go_ret; exact ⟨by rw [hd.out]; first | rfl | (show Ending.returned (Value.bool (decide _)) = _; simp; omega), K⟩)
  by_cases c2 : de ≤ 4398046511104
  case neg =>
    have n2 : 4398046511104 < de := by omega
    have hd : Hid (decide (PathOk ra de ji bu) = false) := decide_eq_false (by unfold PathOk; omega)
    clear c2
    go_enter Try.func22, Try.ntmps22
    go_wp2
    all_goals (go_ret; exact ⟨by rw [hd.out]; first | rfl | (show Ending.returned (Value.bool (decide _)) = _; simp; omega), K⟩)
  by_cases c3 : ji ≤ 4398046511104
  case neg =>
    have n3 : 4398046511104 < ji := by omega
    have hd : Hid (decide (PathOk ra de ji bu) = false) := decide_eq_false (by unfold PathOk; omega)
    clear c3
    go_enter Try.func22, Try.ntmps22
    go_wp2
    all_goals (go_ret; exact ⟨by rw [hd.out]; first | rfl | (show Ending.returned (Value.bool (decide _)) = _; simp; omega), K⟩)
  by_cases c4 : 1 ≤ bu
  case neg =>
    have n4 : bu < 1 := by omega
    have hd : Hid (decide (PathOk ra de ji bu) = false) := decide_eq_false (by unfold PathOk; omega)
    clear c4
    go_enter Try.func22, Try.ntmps22
    go_wp2
    all_goals (go_ret; exact ⟨by rw [hd.out]; first | rfl | (show Ending.returned (Value.bool (decide _)) = _; simp; omega), K⟩)
  by_cases c5 : bu ≤ 72057594037927936
  case neg =>
    have n5 : 72057594037927936 < bu := by omega
    have hd : Hid (decide (PathOk ra de ji bu) = false) := decide_eq_false (by unfold PathOk; omega)
    clear c5
    go_enter Try.func22, Try.ntmps22
    go_wp2
    all_goals (go_ret; exact ⟨by rw [hd.out]; first | rfl | (show Ending.returned (Value.bool (decide _)) = _; simp; omega), K⟩)
  have hd : Hid (decide (PathOk ra de ji bu) = true) := decide_eq_true (by unfold PathOk; omega)
  go_enter Try.func22, Try.ntmps22
  go_wp2
  all_goals (go_ret; exact ⟨by rw [hd.out]; first | rfl | (show Ending.returned (Value.bool (decide _)) = _; simp; omega), K⟩)
end Go.Proofs.Ytjnojomfaikfjaa
