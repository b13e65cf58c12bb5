/- goitlaw21: LinkWait. -/
import Derived.Test.YtjnojomfaikfjaaLawLC
import Derived.Test.YtjnojomfaikfjaaOver
namespace Go.Proofs.Ytjnojomfaikfjaa
set_option linter.unusedSimpArgs false
set_option linter.unusedVariables false
open Go.RowKit Go.Proofs.YtjnojomfaikfjaaW.PrintLast
set_option maxHeartbeats 16000000 in
set_option maxRecDepth 100000 in
theorem linkWait_calls (ra de ji bu : Int) (A : Option Addr) (c : Nat) (l : List LAct) (w : World) (hu1 : U64 ra) (hu2 : U64 de) (hu3 : U64 ji) (hu4 : U64 bu) (mv : Value) (more : List Int) (hmore : Nums w w.heap.size mv more) (h : LActs w w.heap.size A l) (hm : l.length ≤ maxLen) :
    Calls Try.prog 3 #[.agg #[.int .u64 ra, .int .u64 de, .int .u64 ji, .int .u64 bu], .slice A l.length c, mv] w fun e w' => e = .returned (.bool true) ∧ Keeps [] w w' := by
  obtain ⟨hmu, hmm, AM, cm, rfl, hmc, hmz⟩ := hmore
  have hmore : Nums w w.heap.size (.slice AM more.length cm) more := ⟨hmu, hmm, AM, cm, rfl, hmc, hmz⟩
  clear hmz hmc
  go_enter Try.func3, Try.ntmps3
  go_wp2_with (fail)
  have K : Keeps [] w w := Keeps.refl _ _
  have fr_b3 : w.heap.size ≤ w.heap.size := by have h_ := K.size; omega
  refine calls_at (fun W => Keeps [] w W ∧ Blk W w.heap.size 24 [.int .u64 ra, .int .u64 de, .int .u64 ji, .int .u64 bu]) (by
    refine ⟨?_, ?_⟩
    · exact (by (repeat (first | with_reducible exact K | with_reducible apply Keeps.drew | with_reducible apply Keeps.drewN | with_reducible apply Keeps.alloc | with_reducible apply Keeps.set_)); (all_goals (first | (left; simp; done) | (right; assumption) | (right; simp; done) | (right; simp; omega) | (right; omega))))
    · exact (by (repeat (first | with_reducible refine Blk.newAt (by simp; done) | with_reducible apply Blk.drew | with_reducible apply Blk.drewN | with_reducible apply Blk.alloc | with_reducible apply Blk.set2 | with_reducible apply Blk.far)); (all_goals (first | rfl | assumption | (simp; done) | (simp; omega) | omega)))) ?_
  clear K
  rintro W0 ⟨K, P⟩
  generalize hb_b3 : w.heap.size = b3 at *
  have hB : b3 ≤ w.heap.size := by omega
  have hB0 : b3 ≤ W0.heap.size := by have := K.size; omega
  have hA0 := h.keeps K hB (by simp)
  refine (fits_calls b3 A c l W0 hA0 hm).mono ?_
  rintro e w_ ⟨hfit, hw_⟩
  obtain rfl := hw_.symm
  clear hw_
  have c_P_0 := P.cell 0
  have f_P_0 := P.frozen 0
  have c_P_1 := P.cell 1
  have f_P_1 := P.frozen 1
  have c_P_2 := P.cell 2
  have f_P_2 := P.frozen 2
  have c_P_3 := P.cell 3
  have f_P_3 := P.frozen 3
  have l_P := P.lt
  simp only [List.getElem?_cons_zero, List.getElem?_cons_succ] at c_P_0 c_P_1 c_P_2 c_P_3
  rcases hfit with rfl | ⟨rfl, hfit⟩
  · skip
    go_wp2_with (fail)
    refine (ref_right ra de ji bu W0).mono ?_
    rintro e w2 ⟨rfl, k2⟩
    have P2 := P.keeps k2 (by simp)
    have hB2 : b3 ≤ w2.heap.size := Nat.le_trans hB0 k2.size
    have hA2 := hA0.keeps k2 hB0 (by simp)
    have d0 := P2.cell 0
    have d1 := P2.cell 1
    have d2 := P2.cell 2
    have d3 := P2.cell 3
    simp only [List.getElem?_cons_zero, List.getElem?_cons_succ] at d0 d1 d2 d3
    go_wp2_with (fail)
    refine (small_calls ra de ji bu b3 A c l w2 hA2 hB2 hm).mono ?_
    rintro e w3 ⟨hsm, k3⟩
    have K3 : Keeps [] w w3 := (K.trans k2 (by simp)).trans k3 (by simp)
    clear P hA0 hA2 P2
    rcases hsm with rfl | ⟨rfl, hsm⟩
    · skip
      go_wp2_with (fail)
      refine (alive21 _).mono ?_
      rintro e w9 ⟨rfl, k9⟩
      go_wp2
      go_ret
      exact ⟨rfl, (K3).trans k9 (by simp)⟩
    · skip
      go_wp2_with (fail)
      refine (alive21 _).mono ?_
      rintro e w9 ⟨rfl, k9⟩
      go_wp2
      go_ret
      exact ⟨rfl, (K3).trans k9 (by simp)⟩
  · skip
    go_wp2_with (fail)
    refine (ref_right ra de ji bu W0).mono ?_
    rintro e w2 ⟨rfl, k2⟩
    have P2 := P.keeps k2 (by simp)
    have hB2 : b3 ≤ w2.heap.size := Nat.le_trans hB0 k2.size
    have hA2 := hA0.keeps k2 hB0 (by simp)
    have d0 := P2.cell 0
    have d1 := P2.cell 1
    have d2 := P2.cell 2
    have d3 := P2.cell 3
    simp only [List.getElem?_cons_zero, List.getElem?_cons_succ] at d0 d1 d2 d3
    go_wp2_with (fail)
    refine (small_calls ra de ji bu b3 A c l w2 hA2 hB2 hm).mono ?_
    rintro e w3 ⟨hsm, k3⟩
    have K3 : Keeps [] w w3 := (K.trans k2 (by simp)).trans k3 (by simp)
    by_cases hp : PathOk ra de ji bu
    case neg =>
      have hd : decide (PathOk ra de ji bu) = false := decide_eq_false hp
      rw [hd]
      clear hd hp P hA0 hA2 P2
      rcases hsm with rfl | ⟨rfl, hsm⟩
      · skip
        go_wp2_with (fail)
        refine (alive21 _).mono ?_
        rintro e w9 ⟨rfl, k9⟩
        go_wp2
        go_ret
        exact ⟨rfl, (K3).trans k9 (by simp)⟩
      · skip
        go_wp2_with (fail)
        refine (alive21 _).mono ?_
        rintro e w9 ⟨rfl, k9⟩
        go_wp2
        go_ret
        exact ⟨rfl, (K3).trans k9 (by simp)⟩
    have hd : decide (PathOk ra de ji bu) = true := decide_eq_true hp
    rw [hd]
    clear hd
    rcases hsm with rfl | ⟨rfl, hsm⟩
    · clear P hA0 hA2 P2
      go_wp2_with (fail)
      refine (alive21 _).mono ?_
      rintro e w9 ⟨rfl, k9⟩
      go_wp2
      go_ret
      exact ⟨rfl, (K3).trans k9 (by simp)⟩
    have P3 := P2.keeps k3 (by simp)
    by_cases c0 : more.length ≤ 60
    case neg =>
      have c0' : (60 : Int) < (more.length : Int) := by omega
      clear c0 P hA0 hA2 P2 hp
      go_wp2_with (fail)
      refine (alive21 _).mono ?_
      rintro e w9 ⟨rfl, k9⟩
      go_wp2
      go_ret
      exact ⟨rfl, (K3).trans k9 (by simp)⟩
    have c0' : ¬ ((60 : Int) < (more.length : Int)) := by omega
    have d0 := P3.cell 0
    have d1 := P3.cell 1
    have d2 := P3.cell 2
    have d3 := P3.cell 3
    simp only [List.getElem?_cons_zero, List.getElem?_cons_succ] at d0 d1 d2 d3
    clear P P2 hA0 hA2 k2 k3 K
    go_wp2_with (fail)
    refine (lnk_new_yes ra de ji bu w3 hp).mono ?_
    rintro e w4 ⟨zx, rfl, Hx, gx, k4⟩
    have gx' : zx.From w3.heap.size := al_cons gx.1 (al_cons gx.2.1 (al_cons gx.2.2.1 (al_cons gx.2.2.2.1 (al_cons gx.2.2.2.2.1 (al_cons gx.2.2.2.2.2.1 (al_cons gx.2.2.2.2.2.2.1 (al_cons gx.2.2.2.2.2.2.2 al_nil)))))))
    have P5 := P3.keeps k4 (by simp)
    have h3M : b3 < w3.heap.size := P3.lt
    have hs3 : b3 ≤ w3.heap.size := Nat.le_of_lt h3M
    have hs5 : w3.heap.size ≤ w4.heap.size := k4.size
    have K5 : Keeps [] w w4 := K3.trans k4 (by simp)
    have Hx5 := Hx
    have fx := gx'
    clear Hx gx gx' k4 K3 P3
    generalize w3.heap.size = M3 at *
    go_wp2_with (fail)
    go_loopw [12, 13] (fun f i wr => ∃ (k fn n qx jx : Nat) (s : Lnk), k ≤ l.length ∧ i = .int .i64 k ∧ f = .int .i64 fn ∧ fn ≤ 60 * k ∧ n ≤ 60 * k ∧ LnkAt wr (zx.upd qx jx) s ∧ (zx.upd qx jx).From M3 ∧ s.Good ra de ji bu fn k n ∧ Keeps [] w wr ∧ Blk wr b3 24 [.int .u64 ra, .int .u64 de, .int .u64 ji, .int .u64 bu] ∧ M3 ≤ wr.heap.size) (fun _ i _ => l.length - (intOf i).toNat)
    case atStart => exact ⟨0, 0, 0, zx.qp, zx.jp, Lnk.new ra de ji bu, Nat.zero_le _, rfl, rfl, by omega, by omega, Hx5, fx, .inl ⟨rfl, rfl, rfl⟩, K5, P5, hs5⟩
    case round =>
      obtain ⟨k, fn, n, qx, jx, s, hk, rfl, rfl, hfn, hn, Hx, frx, hg, K, T, hszM⟩ := hrel
      clear Hx5 fx P5
      have frx3 := frx.le hs3
      have hsz : b3 ≤ wr.heap.size := by have := K.size; omega
      have hl60 := hfit.1
      by_cases hlt : k < l.length
      · have hmem := List.getElem_mem hlt
        have hft := hfit.2 _ hmem
        obtain ⟨sm1, sm2, sm3⟩ := hsm _ hmem
        obtain ⟨next, E⟩ := hg.env hu1 hu2 hu3 hu4 sm2
        have hlt' : (k : Int) < l.length := by omega
        obtain ⟨ua, uw, a, rfl, sv, cv, hab, y0, y1, y2, y3, y4, ⟨us, ums, A1, c1, rfl, hlc1, hz1⟩, ⟨uc, umc, A2, c2, rfl, hlc2, hz2⟩⟩ := (h.keeps K hB (by simp)) k hlt
        have hns : Nums wr b3 (.slice A1 l[k].sizes.length c1) l[k].sizes := ⟨us, ums, A1, c1, rfl, hlc1, hz1⟩
        have hnc : Nums wr b3 (.slice A2 l[k].choices.length c2) l[k].choices := ⟨uc, umc, A2, c2, rfl, hlc2, hz2⟩
        clear hz1 hz2
        have hnow := hg.now (by omega)
        cases htk : l[k].tick with
        | true =>
          rw [htk] at y0
          have hE := E.tick (d := l[k].after) (j := 1) (w := l[k].waste) (cs := l[k].choices) ua.1 (by omega) (by omega) uw uc (by omega)
          have ut : U64 (s.now + l[k].after) := ⟨by have := ua.1; omega, by omega⟩
          have wp := u64add s.now l[k].after ⟨by omega, by omega⟩ ua (by omega)
          have hkd : Keeps [] wr wr.drew := (Keeps.refl [] wr).drew
          have htm : Calls Try.prog 16 #[.pointer (some ⟨zx.a, 0, none⟩)] wr.drew fun e w' => e = .returned (.int .u64 s.now) ∧ w' = wr.drew := lnk_time (zx.upd qx jx) s wr.drew (Hx.keeps0 hkd)
          have htx : Calls Try.prog 15 #[.pointer (some ⟨zx.a, 0, none⟩), .int .u64 (s.now + l[k].after), .int .u64 l[k].waste, .slice A2 l[k].choices.length c2] wr.drew _ := lnk_tick (zx.upd qx jx) s (s.now + l[k].after) l[k].waste l[k].choices _ n wr.drew (Hx.keeps0 hkd) E.ok (by omega) (by have := ua.1; omega) ut uw uc ((hnc.keeps hkd hsz (by simp)).ch hsz frx3)
          have h2 := h
          clear h hft sm1 sm2 sm3 hns
          go_wp2_with (fail)
          refine start_ (n := 20) (S := fun w' => w'.cell? ⟨(a.add (k * 5)).block, (a.add (k * 5)).off + 2, none⟩ = some (.int .u64 l[k].after) ∧ w'.cell? ⟨(a.add (k * 5)).block, (a.add (k * 5)).off + 3, none⟩ = some (.int .u64 l[k].waste) ∧ w'.cell? ⟨(a.add (k * 5)).block, (a.add (k * 5)).off + 4, none⟩ = some (.slice A2 l[k].choices.length c2)) (ds := [19]) #[false, false, false, false, false, false, false, false, false, false, false, false, false, false, false, false, false, false, false, false] (by kernel_rfl) rfl rfl ⟨y2, y3, y4⟩ (fun hHeld => ?_)
          refine pure_ (i := 0) (N := some 66) (v := ?_) (a' := ?_) #[true, false, false, false, false, false, false, false, false, false, false, false, false, false, false, false, false, false, false, false] rfl rfl (by kernel_rfl) (fun _ _ _ h => h) (Or.inl ⟨by rfl, ?_⟩) ?_ ?_
          rotate_left
          · intro w'
            go_simp
            with_reducible rfl
          rotate_left
          · simp only [Act.put, List.setIfInBounds_toArray, List.set_cons_zero, List.set_cons_succ, i64_w, i32_w]
            rfl
          refine pure_ (i := 1) (N := some 67) (v := ?_) (a' := ?_) #[true, true, false, false, false, false, false, false, false, false, false, false, false, false, false, false, false, false, false, false] rfl rfl (by kernel_rfl) (fun _ _ _ h => h) (Or.inl ⟨by rfl, ?_⟩) ?_ ?_
          rotate_left
          · intro w'
            go_simp
            with_reducible rfl
          rotate_left
          · simp only [Act.put, List.setIfInBounds_toArray, List.set_cons_zero, List.set_cons_succ, i64_w, i32_w]
            rfl
          refine pure_ (i := 3) (N := some 69) (v := ?_) (a' := ?_) #[true, true, false, true, false, false, false, false, false, false, false, false, false, false, false, false, false, false, false, false] rfl rfl (by kernel_rfl) (fun _ _ _ h => h) (Or.inl ⟨by rfl, ?_⟩) ?_ ?_
          rotate_left
          · intro w'
            go_simp
            with_reducible rfl
          rotate_left
          · simp only [Act.put, List.setIfInBounds_toArray, List.set_cons_zero, List.set_cons_succ, i64_w, i32_w]
            rfl
          refine pure_ (i := 4) (N := some 70) (v := ?_) (a' := ?_) #[true, true, false, true, true, false, false, false, false, false, false, false, false, false, false, false, false, false, false, false] rfl rfl (by kernel_rfl) (fun _ _ _ h => h) (Or.inl ⟨by rfl, ?_⟩) ?_ ?_
          rotate_left
          · intro w'
            go_simp
            with_reducible rfl
          rotate_left
          · simp only [Act.put, List.setIfInBounds_toArray, List.set_cons_zero, List.set_cons_succ, i64_w, i32_w]
            rfl
          refine pure_ (i := 5) (N := some 71) (v := ?_) (a' := ?_) #[true, true, false, true, true, true, false, false, false, false, false, false, false, false, false, false, false, false, false, false] rfl rfl (by kernel_rfl) (fun _ _ _ h => h) (Or.inl ⟨by rfl, ?_⟩) ?_ ?_
          rotate_left
          · intro w'
            go_simp
            with_reducible rfl
          rotate_left
          · simp only [Act.put, List.setIfInBounds_toArray, List.set_cons_zero, List.set_cons_succ, i64_w, i32_w]
            rfl
          refine pure_ (i := 6) (N := some 72) (v := ?_) (a' := ?_) #[true, true, false, true, true, true, true, false, false, false, false, false, false, false, false, false, false, false, false, false] rfl rfl (by kernel_rfl) (fun _ _ _ h => h) (Or.inl ⟨by rfl, ?_⟩) ?_ ?_
          rotate_left
          · intro w'
            go_simp
            with_reducible rfl
          rotate_left
          · simp only [Act.put, List.setIfInBounds_toArray, List.set_cons_zero, List.set_cons_succ, i64_w, i32_w]
            rfl
          refine pure_ (i := 9) (N := some 75) (v := ?_) (a' := ?_) #[true, true, false, true, true, true, true, false, false, true, false, false, false, false, false, false, false, false, false, false] rfl rfl (by kernel_rfl) (fun _ _ _ h => h) (Or.inl ⟨by rfl, ?_⟩) ?_ ?_
          rotate_left
          · intro w'
            go_simp
            with_reducible rfl
          rotate_left
          · simp only [Act.put, List.setIfInBounds_toArray, List.set_cons_zero, List.set_cons_succ, i64_w, i32_w]
            rfl
          refine pure_ (i := 10) (N := some 76) (v := ?_) (a' := ?_) #[true, true, false, true, true, true, true, false, false, true, true, false, false, false, false, false, false, false, false, false] rfl rfl (by kernel_rfl) (fun _ _ _ h => h) (Or.inl ⟨by rfl, ?_⟩) ?_ ?_
          rotate_left
          · intro w'
            go_simp
            with_reducible rfl
          rotate_left
          · simp only [Act.put, List.setIfInBounds_toArray, List.set_cons_zero, List.set_cons_succ, i64_w, i32_w]
            rfl
          refine pure_ (i := 11) (N := some 77) (v := ?_) (a' := ?_) #[true, true, false, true, true, true, true, false, false, true, true, true, false, false, false, false, false, false, false, false] rfl rfl (by kernel_rfl) (fun _ _ _ h => h) (Or.inl ⟨by rfl, ?_⟩) ?_ ?_
          rotate_left
          · intro w'
            go_simp
            with_reducible rfl
          rotate_left
          · simp only [Act.put, List.setIfInBounds_toArray, List.set_cons_zero, List.set_cons_succ, i64_w, i32_w]
            rfl
          refine pure_ (i := 12) (N := some 78) (v := ?_) (a' := ?_) #[true, true, false, true, true, true, true, false, false, true, true, true, true, false, false, false, false, false, false, false] rfl rfl (by kernel_rfl) (fun _ _ _ h => h) (Or.inl ⟨by rfl, ?_⟩) ?_ ?_
          rotate_left
          · intro w'
            go_simp
            with_reducible rfl
          rotate_left
          · simp only [Act.put, List.setIfInBounds_toArray, List.set_cons_zero, List.set_cons_succ, i64_w, i32_w]
            rfl
          refine pure_ (i := 14) (N := some 80) (v := ?_) (a' := ?_) #[true, true, false, true, true, true, true, false, false, true, true, true, true, false, true, false, false, false, false, false] rfl rfl (by kernel_rfl) (fun _ _ _ h => h) (Or.inl ⟨by rfl, ?_⟩) ?_ ?_
          rotate_left
          · intro w'
            go_simp
            with_reducible rfl
          rotate_left
          · simp only [Act.put, List.setIfInBounds_toArray, List.set_cons_zero, List.set_cons_succ, i64_w, i32_w]
            rfl
          refine pure_ (i := 15) (N := some 81) (v := ?_) (a' := ?_) #[true, true, false, true, true, true, true, false, false, true, true, true, true, false, true, true, false, false, false, false] rfl rfl (by kernel_rfl) (fun _ _ _ h => h) (Or.inl ⟨by rfl, ?_⟩) ?_ ?_
          rotate_left
          · intro w'
            go_simp
            with_reducible rfl
          rotate_left
          · simp only [Act.put, List.setIfInBounds_toArray, List.set_cons_zero, List.set_cons_succ, i64_w, i32_w]
            rfl
          refine pure_ (i := 16) (N := some 82) (v := ?_) (a' := ?_) #[true, true, false, true, true, true, true, false, false, true, true, true, true, false, true, true, true, false, false, false] rfl rfl (by kernel_rfl) (fun _ _ _ h => h) (Or.inl ⟨by rfl, ?_⟩) ?_ ?_
          rotate_left
          · intro w'
            go_simp
            with_reducible rfl
          rotate_left
          · simp only [Act.put, List.setIfInBounds_toArray, List.set_cons_zero, List.set_cons_succ, i64_w, i32_w]
            rfl
          refine pure_ (i := 17) (N := some 83) (v := ?_) (a' := ?_) #[true, true, false, true, true, true, true, false, false, true, true, true, true, false, true, true, true, true, false, false] rfl rfl (by kernel_rfl) (fun _ _ _ h => h) (Or.inl ⟨by rfl, ?_⟩) ?_ ?_
          rotate_left
          · intro w'
            go_simp
            with_reducible rfl
          rotate_left
          · simp only [Act.put, List.setIfInBounds_toArray, List.set_cons_zero, List.set_cons_succ, i64_w, i32_w]
            rfl
          refine take_ (i := 7) (N := some 73) (v := ?_) (a' := ?_) #[true, true, false, true, true, true, true, true, false, true, true, true, true, false, true, true, true, true, false, false] rfl rfl (by kernel_rfl) (fun _ _ _ h => h) (Or.inl ⟨by rfl, ?_⟩) hHeld ?_ ?_
          rotate_left
          · rintro w' ⟨s0, s1, s2⟩
            go_simp
            with_reducible rfl
          rotate_left
          · simp only [Act.put, List.setIfInBounds_toArray, List.set_cons_zero, List.set_cons_succ, i64_w, i32_w]
            rfl
          refine take_ (i := 13) (N := some 79) (v := ?_) (a' := ?_) #[true, true, false, true, true, true, true, true, false, true, true, true, true, true, true, true, true, true, false, false] rfl rfl (by kernel_rfl) (fun _ _ _ h => h) (Or.inl ⟨by rfl, ?_⟩) hHeld ?_ ?_
          rotate_left
          · rintro w' ⟨s0, s1, s2⟩
            go_simp
            with_reducible rfl
          rotate_left
          · simp only [Act.put, List.setIfInBounds_toArray, List.set_cons_zero, List.set_cons_succ, i64_w, i32_w]
            rfl
          refine take_ (i := 18) (N := some 84) (v := ?_) (a' := ?_) #[true, true, false, true, true, true, true, true, false, true, true, true, true, true, true, true, true, true, true, false] rfl rfl (by kernel_rfl) (fun _ _ _ h => h) (Or.inl ⟨by rfl, ?_⟩) hHeld ?_ ?_
          rotate_left
          · rintro w' ⟨s0, s1, s2⟩
            go_simp
            with_reducible rfl
          rotate_left
          · simp only [Act.put, List.setIfInBounds_toArray, List.set_cons_zero, List.set_cons_succ, i64_w, i32_w]
            rfl
          refine one_ (i := 2) (N := some 68) #[true, true, true, true, true, true, true, true, false, true, true, true, true, true, true, true, true, true, true, false] rfl rfl (by kernel_rfl) (by decide) (fun K hK => ?_)
          refine goes_ Try.func16 (by kernel_rfl) rfl #[.pointer (some ⟨zx.a, 0, none⟩)] (by rfl) rfl rfl (by simp only [List.map_toArray, List.map_cons, List.map_nil]; rfl) ?_
          with_reducible refine (htm).mono ?_
          rintro e w6 ⟨rfl, rfl⟩
          refine ⟨_, rfl, ?_⟩
          refine hK.out _ _ ⟨hHeld.1, hHeld.2.1, hHeld.2.2⟩ (fun hHeld => ?_)
          clear hK K
          refine norm_ (a' := ?_) ?_ ?_
          rotate_left
          · show Act.put _ (some 68) _ = _
            simp only [Act.put, List.setIfInBounds_toArray, List.set_cons_zero, List.set_cons_succ, i64_w, i32_w]
            rfl
          refine pure_ (i := 8) (N := some 74) (v := ?_) (a' := ?_) #[true, true, true, true, true, true, true, true, true, true, true, true, true, true, true, true, true, true, true, false] rfl rfl (by kernel_rfl) (fun _ _ _ h => h) (Or.inl ⟨by rfl, ?_⟩) ?_ ?_
          rotate_left
          · intro w'
            go_simp
            with_reducible rfl
          rotate_left
          · simp only [Act.put, List.setIfInBounds_toArray, List.set_cons_zero, List.set_cons_succ, i64_w, i32_w]
            rfl
          refine last_ (i := 19) (N := some 85) #[true, true, true, true, true, true, true, true, true, true, true, true, true, true, true, true, true, true, true, true] rfl rfl (by kernel_rfl) (by decide) (fun K hK => ?_)
          refine goes_ Try.func15 (by kernel_rfl) rfl #[.pointer (some ⟨zx.a, 0, none⟩), .int .u64 (s.now + l[k].after), .int .u64 l[k].waste, .slice A2 l[k].choices.length c2] (by rfl) rfl rfl (by simp only [List.map_toArray, List.map_cons, List.map_nil]; rfl) ?_
          with_reducible refine (htx).mono ?_
          rintro e w6 ⟨o6, rfl, -, -, ⟨jx', Hx', hjx⟩, k6⟩
          refine ⟨_, rfl, ?_⟩
          refine hK.out _ _ ?_
          clear hK K
          refine norm_ (a' := ?_) ?_ ?_
          rotate_left
          · show Act.put _ (some 85) _ = _
            simp only [Act.put, List.setIfInBounds_toArray, List.set_cons_zero, List.set_cons_succ, i64_w, i32_w]
            rfl
          refine done_ (by kernel_rfl) ?_
          have K6 : Keeps [] w w6 := (K.drew).trans k6 (fun b hb => .inr (by have := frx3 b hb; rw [hb_b3]; exact this))
          have hjb : M3 ≤ jx' := by
            rcases hjx with h | h
            · rw [h]; exact frx _ (by simp [LA.upd, LA.all])
            · exact Nat.le_trans hszM h
          have T6 := (T.drew).keeps k6 (frx.not_ h3M)
          have hszM6 : M3 ≤ w6.heap.size := Nat.le_trans hszM k6.size
          have fr6 : (zx.upd qx jx').From M3 := frx.withJ hjb
          replace Hx' : LnkAt w6 (zx.upd qx jx') (s.tick (s.now + l[k].after) l[k].waste l[k].choices) := Hx'
          clear htm htx k6 Hx frx hjx y0 y1 y2 y3 y4 hnc wp
          go_wp2_with (fail)
          go_roundw
          case rel => exact ⟨k + 1, fn, n, qx, jx', _, by omega, by go_num, rfl, by omega, by omega, Hx', fr6, .inr ⟨_, hE.1⟩, K6, T6, hszM6⟩
          case measure => simp [intOf]; omega
        | false =>
          rw [htk] at y0
          have hlp := pkts_len l[k].sizes fn
          have hus : ∀ p ∈ pkts fn l[k].sizes, U64 p.size := pkts_size _ _ _ us
          have hus2 : ∀ x ∈ l[k].sizes, 0 ≤ x ∧ x ≤ 1073741824 := fun x hx => ⟨(us x hx).1, sm3 x hx⟩
          have hE := E.send l[k].sizes hus2 (by omega)
          have hpk := packets_calls fn b3 _ l[k].sizes wr hns hsz (by omega) (by omega)
          have h2 := h
          clear h sm1 sm2 sm3 hnc
          go_wp2_with (fail)
          refine hpk.mono ?_
          rintro e w6 ⟨o, rfl, R, hfo, k6⟩
          have Hx6 := Hx.keeps0 k6
          have K6 := K.trans k6 (by simp)
          have hsz6 := k6.size
          have ltx := Hx.lt
          have ltx6 := Hx6.lt
          have hoq : o.ownBlock ≠ some qx := fun hc => by have h1 := hfo _ hc; have h2 := ltx qx (by simp [LA.upd, LA.all]); omega
          have hsx : Calls Try.prog 18 #[.pointer (some ⟨zx.a, 0, none⟩), o] w6 _ := lnk_send (zx.upd qx jx) s (pkts fn l[k].sizes) o n w6 Hx6 E.ok R hoq hus (by omega)
          obtain ⟨Ao, co, rfl⟩ := R.formN (n := l[k].sizes.length) (by simp [hlp])
          have hT6 := T.keeps k6 (by simp)
          clear hpk Hx y0 y1 y2 y3 y4 hns
          have hl1 : (0 : Int) ≤ (fn : Int) ∧ (fn : Int) ≤ 3600 ∧ (0 : Int) ≤ (l[k].sizes.length : Int) ∧ (l[k].sizes.length : Int) ≤ 60 := by omega
          have q1 := i64k ((fn : Int) + (l[k].sizes.length : Int)) (by omega) (by omega)
          have q2 := i64w ((fn : Int) + (l[k].sizes.length : Int)) (by omega) (by omega)
          go_wp2_with (fail)
          clear q1 q2
          refine hsx.mono ?_
          rintro e w7 ⟨rfl, ⟨qx', Hx', hqx⟩, k7⟩
          have K7 : Keeps [] w w7 := K6.trans k7 (fun b hb => .inr (by have := frx3 b (sendB _ b hb); rw [hb_b3]; exact this))
          have T7 := hT6.keeps k7 (fun hm => frx.not_ h3M (sendB _ _ hm))
          have hszM7 : M3 ≤ w7.heap.size := Nat.le_trans (Nat.le_trans hszM hsz6) k7.size
          have hqb : M3 ≤ qx' := by
            rcases hqx with h | h
            · rw [h]; exact frx _ (by simp [LA.upd, LA.all])
            · omega
          have fr7 : (zx.upd qx' jx).From M3 := frx.withQ hqb
          replace Hx' : LnkAt w7 (zx.upd qx' jx) (s.send (pkts fn l[k].sizes)) := Hx'
          have hE1 : (s.send (pkts fn l[k].sizes)).Env ra bu next ((fn + l[k].sizes.length : Nat) : Int) (k + 1) (n + l[k].sizes.length) := { hE with nowB := by have := hE.nowB; omega }
          clear hsx R k7 hqx ltx ltx6 Hx6 hE
          have hft' := (hfit.2 _ hmem).1
          go_wp2_with (fail)
          go_roundw
          case rel => exact ⟨k + 1, fn + l[k].sizes.length, n + l[k].sizes.length, qx', jx, _, by omega, by go_num, by go_num, by omega, by omega, Hx', fr7, .inr ⟨_, hE1⟩, K7, T7, hszM7⟩
          case measure => simp [intOf]; omega
      · obtain rfl : k = l.length := by omega
        have hf4 : fn ≤ 4000 := by omega
        have ok := hg.ok hu1 hu2 hu3 hu4
        have hnow := hg.now hl60
        have hp' : 1 ≤ ra ∧ ra ≤ 1099511627776 ∧ 1 ≤ bu := by unfold PathOk at hp; omega
        have hus : ∀ p ∈ pkts fn more, U64 p.size := pkts_size _ _ _ hmu
        have hlp := pkts_len more fn
        obtain ⟨a1, a2, a3, a4, a5, a6, a7, a8⟩ := hg.wait hp'.1 hp'.2.1 hp'.2.2 hu1 hu2 hu3 hu4 hl60 hf4 hus
        have z0 : U64 0 := ⟨by decide, by decide⟩
        have ok1 := Lnk.Ok.send (pkts fn more) ok hus
        rw [hlp] at ok1
        have hn9 : n + more.length ≤ 900000 := by omega
        have hsn : (s.send (pkts fn more)).now = s.now := (Lnk.send_q _ s).2.2.1
        obtain ⟨WT, hWT⟩ : ∃ x, Hid (x = s.waits ra) := ⟨s.waits ra, show _ = _ from rfl⟩
        have hdv : Hid ((s.Q.bytes * 1000000 + ra - 1) / ra = WT) := hWT.out.symm
        rw [← hWT.out] at a4 a5 a8
        have hov := fun W => over_int bu ra s.Q.bytes hu4 hu1 hp'.1 a1 a3 (by rw [hdv.out]; omega) W
        rw [hdv.out] at hov
        have utw : U64 (s.now + WT) := ⟨by omega, by omega⟩
        have hmw := hmore.keeps K hB (by simp)
        obtain ⟨s1, hs1⟩ : ∃ x, Hid (x = s.send (pkts fn more)) := ⟨s.send (pkts fn more), show _ = _ from rfl⟩
        rw [← hs1.out] at ok1 hsn a8
        have okt := ok1.tick (t := s.now + WT) (k := 0) (cs := []) (by rw [hsn]; omega) utw z0 (by simp)
        obtain ⟨s2, hs2⟩ : ∃ x, Hid (x = s1.tick (s.now + WT) 0 []) := ⟨s1.tick (s.now + WT) 0 [], show _ = _ from rfl⟩
        rw [← hs2.out] at okt a8
        have hcx : Calls Try.prog 19 #[.pointer (some ⟨zx.a, 0, none⟩)] wr _ := lnk_count (zx.upd qx jx) s n wr Hx ok (by omega)
        simp only [Lnk.count] at hcx
        clear hsm h hfit
        go_wp2_with (fail)
        refine hcx.mono ?_
        rintro e w7 ⟨rfl, k7⟩
        have nb : w7.heap.size ∉ (zx.upd qx jx).all := fun h => Nat.lt_irrefl _ (Nat.lt_of_lt_of_le (Hx.lt _ h) k7.size)
        have ka : Keeps [] w7 (w7.alloc (.cells #[.int .u64 s.came, .int .u64 s.Q.gone, .int .u64 s.Q.bytes, .int .u64 s.served, .int .u64 s.under, .int .u64 s.delivered] 44)) := (Keeps.refl _ _).alloc _
        have C1 := Blk.new w7 44 [.int .u64 s.came, .int .u64 s.Q.gone, .int .u64 s.Q.bytes, .int .u64 s.served, .int .u64 s.under, .int .u64 s.delivered]
        have Hx7 := (Hx.keeps0 k7).keeps0 ka
        have K7 := (K.trans k7 (by simp)).trans ka (by simp)
        have T7 := (T.keeps k7 (by simp)).keeps ka (by simp)
        have hm7 := (hmw.keeps k7 hsz (by simp)).keeps ka (Nat.le_trans hsz k7.size) (by simp)
        have hsz7 : b3 ≤ (w7.alloc (.cells #[.int .u64 s.came, .int .u64 s.Q.gone, .int .u64 s.Q.bytes, .int .u64 s.served, .int .u64 s.under, .int .u64 s.delivered] 44)).heap.size := Nat.le_trans hsz (Nat.le_trans k7.size ka.size)
        have hszM7 := Nat.le_trans hszM (Nat.le_trans k7.size ka.size)
        clear hcx k7 Hx K T ka hmw
        have x2 := C1.cell 2
        have p0 := T7.cell 0
        have p3 := T7.cell 3
        simp only [List.getElem?_cons_zero, List.getElem?_cons_succ] at x2 p0 p3
        have hra0 : ¬ (ra = 0) := by omega
        have hWTu : 0 ≤ WT ∧ WT < 18446744073709551616 := by omega
        have y1 : _ ∧ True := ⟨wrapc (s.Q.bytes * 1000000) (s.Q.bytes * 1000000) 0 (by omega) (by omega) (by omega), trivial⟩
        have y2 : _ ∧ True := ⟨wrapc (s.Q.bytes * 1000000 + ra) (s.Q.bytes * 1000000 + ra) 0 (by omega) (by omega) (by omega), trivial⟩
        have y3 : _ ∧ True := ⟨wrapc (s.Q.bytes * 1000000 + ra - 1) (s.Q.bytes * 1000000 + ra - 1) 0 (by omega) (by omega) (by omega), trivial⟩
        have y4 : (s.Q.bytes * 1000000 + ra - 1).tdiv ra = WT := by rw [Int.tdiv_eq_ediv_of_nonneg (by omega)]; exact hdv.out
        have y5 : IntKind.u64.wrap WT = WT := wrapc WT WT 0 (by simp) hWTu.1 hWTu.2
        have y1 := y1.1
        have y2 := y2.1
        have y3 := y3.1
        have y6 := hdv.out
        go_wp2_with (fail)
        clear y1 y2 y3 y4 y5 y6 x2 p0 p3
        refine (hov _).mono ?_
        rintro e w_ ⟨⟨ff, rfl, hff⟩, hw_⟩
        obtain rfl := hw_.symm
        clear hov hw_
        have hpk := packets_calls fn b3 _ more _ hm7 hsz7 c0 (by omega)
        go_wp2_with (fail)
        refine hpk.mono ?_
        rintro e w8 ⟨o, rfl, R, hfo, k8⟩
        have Hx8 := Hx7.keeps0 k8
        have K8 := K7.trans k8 (by simp)
        have C8 := C1.keeps k8 (by simp)
        have lt7 := Hx7.lt
        have hoq : o.ownBlock ≠ some qx := fun hc => by have h1 := hfo _ hc; have h2 := lt7 qx (by simp [LA.upd, LA.all]); omega
        have hsx : Calls Try.prog 18 #[.pointer (some ⟨zx.a, 0, none⟩), o] w8 _ := lnk_send (zx.upd qx jx) s (pkts fn more) o n w8 Hx8 ok R hoq hus (by omega)
        rw [← hs1.out] at hsx
        have hszw : w.heap.size ≤ w8.heap.size := K8.size
        have hszM8 := Nat.le_trans hszM7 k8.size
        clear hszM7
        clear hpk Hx7 K7 hm7 T7 k8 C1 lt7 hfo
        generalize w7.heap.size = b15 at *
        go_wp2_with (fail)
        refine hsx.mono ?_
        rintro e w9 ⟨rfl, ⟨qx', Hx9, hqx⟩, k9⟩
        have K9 := K8.trans k9 (fun b hb => .inr (by have := frx3 b (sendB _ b hb); rw [hb_b3]; exact this))
        have hn9s : s1.now = s.now := hsn
        replace Hx9 : LnkAt w9 (zx.upd qx' jx) s1 := Hx9
        have C9 := C8.keeps k9 (fun hm => nb (sendB _ _ hm))
        have hqb : M3 ≤ qx' := by
          rcases hqx with h | h
          · rw [h]; exact frx _ (by simp [LA.upd, LA.all])
          · omega
        have frx3' := (frx.withQ hqb).le hs3
        have hq15 : b15 ≠ qx' := by
          rcases hqx with h | h
          · intro hc
            exact nb (by rw [hc, h]; simp [LA.upd, LA.all])
          · have := C8.lt
            omega
        have nb' : b15 ∉ (zx.upd qx' jx).all := by
          simp [LA.upd, LA.all] at nb ⊢
          simp [nb, hq15]
        clear hsx R k9 hqx Hx8 K8 C8
        have htm : Calls Try.prog 16 #[.pointer (some ⟨zx.a, 0, none⟩)] w9 _ := lnk_time (zx.upd qx' jx) s1 w9 Hx9
        rw [hn9s] at htm
        go_wp2_with (fail)
        refine htm.mono ?_
        rintro e w_ ⟨rfl, hw_⟩
        obtain rfl := hw_.symm
        have htx : Calls Try.prog 15 #[.pointer (some ⟨zx.a, 0, none⟩), .int .u64 (s.now + WT), .int .u64 0, .slice none 0 0] w9 _ := lnk_tick (zx.upd qx' jx) s1 (s.now + WT) 0 [] _ (n + more.length) w9 Hx9 ok1 hn9 (by rw [hn9s]; omega) utw z0 (by simp) (ch_nil _ _)
        rw [← hs2.out] at htx
        have y1 : _ ∧ True := ⟨wrapc (s.now + WT) (s.now + WT) 0 (by simp) utw.1 (by have := utw.2; omega), trivial⟩
        have y1 := y1.1
        go_wp2_with (fail)
        clear y1
        refine htx.mono ?_
        rintro e w10 ⟨o6, rfl, -, -, ⟨jx', Hx', hjx⟩, k10⟩
        have K10 := K9.trans k10 (fun b hb => .inr (by have := frx3' b hb; rw [hb_b3]; exact this))
        have C10 := C9.keeps k10 nb'
        replace Hx' : LnkAt w10 (zx.upd qx' jx') s2 := Hx'
        clear htm htx k10 Hx9 K9 C9
        have hcx : Calls Try.prog 19 #[.pointer (some ⟨zx.a, 0, none⟩)] w10 _ := lnk_count (zx.upd qx' jx') s2 (n + more.length) w10 Hx' okt hn9
        simp only [Lnk.count] at hcx
        go_wp2_with (fail)
        refine hcx.mono ?_
        rintro e w11 ⟨rfl, k11⟩
        have ka : Keeps [] w11 (w11.alloc (.cells #[.int .u64 s2.came, .int .u64 s2.Q.gone, .int .u64 s2.Q.bytes, .int .u64 s2.served, .int .u64 s2.under, .int .u64 s2.delivered] 44)) := (Keeps.refl _ _).alloc _
        have D2 := Blk.new w11 44 [.int .u64 s2.came, .int .u64 s2.Q.gone, .int .u64 s2.Q.bytes, .int .u64 s2.served, .int .u64 s2.under, .int .u64 s2.delivered]
        have D1 := (C10.keeps k11 (by simp)).keeps ka (by simp)
        have K11 := (K10.trans k11 (by simp)).trans ka (by simp)
        clear hcx k11 Hx' K10 C10 ka
        go_wp2_with (fail)
        refine (alive21 _).mono ?_
        rintro e w13 ⟨rfl, k13⟩
        generalize w11.heap.size = b20 at *
        have F1 := D1.keeps k13 (by simp)
        have F2 := D2.keeps k13 (by simp)
        have f12 := F1.cell 2
        have f13 := F1.cell 3
        have f23 := F2.cell 3
        simp only [List.getElem?_cons_zero, List.getElem?_cons_succ] at f12 f13 f23
        have y1 : _ ∧ True := ⟨wrapc (s.served + s.Q.bytes) (s.served + s.Q.bytes) 0 (by omega) (by omega) (by omega), trivial⟩
        have y1 := y1.1
        go_wp2
        go_ret
        exact ⟨rfl, K11.trans k13 (by simp)⟩
end Go.Proofs.Ytjnojomfaikfjaa
