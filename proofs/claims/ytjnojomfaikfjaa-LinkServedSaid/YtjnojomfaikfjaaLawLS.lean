/- goitlaw21: LinkServed. -/
import Derived.Test.YtjnojomfaikfjaaLawLC
namespace Go.Proofs.Ytjnojomfaikfjaa
set_option linter.unusedSimpArgs false
set_option linter.unusedVariables false
open Go.RowKit Go.Proofs.YtjnojomfaikfjaaW.PrintLast
set_option maxHeartbeats 16000000 in
set_option maxRecDepth 100000 in
theorem linkServed_calls (ra de ji bu o0 o1 : Int) (A : Option Addr) (c : Nat) (l : List LAct) (w : World) (u1 : U64 ra) (u2 : U64 de) (u3 : U64 ji) (u4 : U64 bu) (v0 : 0 ≤ o0 ∧ o0 ≤ 4294967295) (v1 : 0 ≤ o1 ∧ o1 ≤ 4294967295) (h : LActs w w.heap.size A l) (hm : l.length ≤ maxLen) :
    Calls Try.prog 6 #[.agg #[.int .u64 ra, .int .u64 de, .int .u64 ji, .int .u64 bu], .slice A l.length c, .agg #[.int .u32 o0, .int .u32 o1]] w fun e w' => e = .returned (.bool true) ∧ Keeps [] w w' := by
  go_enter Try.func6, Try.ntmps6
  go_wp2_with (fail)
  have K : Keeps [] w w := Keeps.refl _ _
  have fr_b3 : w.heap.size ≤ w.heap.size := by have h_ := K.size; omega
  have fr_b5 : w.heap.size ≤ (w.heap.size + 1) := by have h_ := K.size; omega
  have ne_b3_b5 : w.heap.size ≠ (w.heap.size + 1) := by omega
  refine calls_at (fun W => Keeps [] w W ∧ Blk W w.heap.size 24 [.int .u64 ra, .int .u64 de, .int .u64 ji, .int .u64 bu] ∧ Blk W (w.heap.size + 1) 77 [.int .u32 o0, .int .u32 o1]) (by
    refine ⟨?_, ?_, ?_⟩
    · exact (by (repeat (first | with_reducible exact K | with_reducible apply Keeps.drew | with_reducible apply Keeps.drewN | with_reducible apply Keeps.alloc | with_reducible apply Keeps.set_)); (all_goals (first | (left; simp; done) | (right; assumption) | (right; simp; done) | (right; simp; omega) | (right; omega))))
    · exact (by (repeat (first | with_reducible refine Blk.newAt (by simp; done) | with_reducible apply Blk.drew | with_reducible apply Blk.drewN | with_reducible apply Blk.alloc | with_reducible apply Blk.set2 | with_reducible apply Blk.far)); (all_goals (first | rfl | assumption | (simp; done) | (simp; omega) | omega)))
    · exact (by (repeat (first | with_reducible refine Blk.newAt (by simp; done) | with_reducible apply Blk.drew | with_reducible apply Blk.drewN | with_reducible apply Blk.alloc | with_reducible apply Blk.set2 | with_reducible apply Blk.far)); (all_goals (first | rfl | assumption | (simp; done) | (simp; omega) | omega)))) ?_
  clear K
  rintro W0 ⟨K, P, T⟩
  generalize hb_b5 : (w.heap.size + 1) = b5 at *
  generalize hb_b3 : w.heap.size = b3 at *
  have hB : b3 ≤ w.heap.size := by omega
  have hB0 : b3 ≤ W0.heap.size := by have := K.size; omega
  have hA0 := h.keeps K hB (by simp)
  refine (fits_calls b3 A c l W0 hA0 hm).mono ?_
  rintro e w_ ⟨hfit, hw_⟩
  obtain rfl := hw_.symm
  clear hw_
  have c_P_0 := P.cell 0
  have f_P_0 := P.frozen 0
  have c_P_1 := P.cell 1
  have f_P_1 := P.frozen 1
  have c_P_2 := P.cell 2
  have f_P_2 := P.frozen 2
  have c_P_3 := P.cell 3
  have f_P_3 := P.frozen 3
  have l_P := P.lt
  simp only [List.getElem?_cons_zero, List.getElem?_cons_succ] at c_P_0 c_P_1 c_P_2 c_P_3
  rcases hfit with rfl | ⟨rfl, hfit⟩
  · skip
    go_wp2_with (fail)
    refine (ref_right ra de ji bu W0).mono ?_
    rintro e w2 ⟨rfl, k2⟩
    have P2 := P.keeps k2 (by simp)
    have hB2 : b3 ≤ w2.heap.size := Nat.le_trans hB0 k2.size
    have hA2 := hA0.keeps k2 hB0 (by simp)
    have d0 := P2.cell 0
    have d1 := P2.cell 1
    have d2 := P2.cell 2
    have d3 := P2.cell 3
    simp only [List.getElem?_cons_zero, List.getElem?_cons_succ] at d0 d1 d2 d3
    go_wp2_with (fail)
    refine (small_calls ra de ji bu b3 A c l w2 hA2 hB2 hm).mono ?_
    rintro e w3 ⟨hsm, k3⟩
    have K3 : Keeps [] w w3 := (K.trans k2 (by simp)).trans k3 (by simp)
    clear P T hA0 hA2 P2
    rcases hsm with rfl | ⟨rfl, hsm⟩
    · skip
      go_wp2_with (fail)
      refine (alive21 _).mono ?_
      rintro e w9 ⟨rfl, k9⟩
      go_wp2
      go_ret
      exact ⟨rfl, (K3).trans k9 (by simp)⟩
    · skip
      go_wp2_with (fail)
      refine (alive21 _).mono ?_
      rintro e w9 ⟨rfl, k9⟩
      go_wp2
      go_ret
      exact ⟨rfl, (K3).trans k9 (by simp)⟩
  · skip
    go_wp2_with (fail)
    refine (ref_right ra de ji bu W0).mono ?_
    rintro e w2 ⟨rfl, k2⟩
    have P2 := P.keeps k2 (by simp)
    have hB2 : b3 ≤ w2.heap.size := Nat.le_trans hB0 k2.size
    have hA2 := hA0.keeps k2 hB0 (by simp)
    have d0 := P2.cell 0
    have d1 := P2.cell 1
    have d2 := P2.cell 2
    have d3 := P2.cell 3
    simp only [List.getElem?_cons_zero, List.getElem?_cons_succ] at d0 d1 d2 d3
    go_wp2_with (fail)
    refine (small_calls ra de ji bu b3 A c l w2 hA2 hB2 hm).mono ?_
    rintro e w3 ⟨hsm, k3⟩
    have K3 : Keeps [] w w3 := (K.trans k2 (by simp)).trans k3 (by simp)
    by_cases hp : PathOk ra de ji bu
    case neg =>
      have hd : decide (PathOk ra de ji bu) = false := decide_eq_false hp
      rw [hd]
      clear hd hp P T hA0 hA2 P2
      rcases hsm with rfl | ⟨rfl, hsm⟩
      · skip
        go_wp2_with (fail)
        refine (alive21 _).mono ?_
        rintro e w9 ⟨rfl, k9⟩
        go_wp2
        go_ret
        exact ⟨rfl, (K3).trans k9 (by simp)⟩
      · skip
        go_wp2_with (fail)
        refine (alive21 _).mono ?_
        rintro e w9 ⟨rfl, k9⟩
        go_wp2
        go_ret
        exact ⟨rfl, (K3).trans k9 (by simp)⟩
    have hd : decide (PathOk ra de ji bu) = true := decide_eq_true hp
    rw [hd]
    clear hd
    rcases hsm with rfl | ⟨rfl, hsm⟩
    · clear P T hA0 hA2 P2
      go_wp2_with (fail)
      refine (alive21 _).mono ?_
      rintro e w9 ⟨rfl, k9⟩
      go_wp2
      go_ret
      exact ⟨rfl, (K3).trans k9 (by simp)⟩
    have T3 := (T.keeps k2 (by simp)).keeps k3 (by simp)
    have P3 := P2.keeps k3 (by simp)
    have t0 := T3.cell 0
    have t1 := T3.cell 1
    simp only [List.getElem?_cons_zero, List.getElem?_cons_succ] at t0 t1
    by_cases c0 : o0 ≤ 1073741824
    case neg =>
      have c0' : (1073741824 : Int) < o0 := by omega
      clear c0 P T hA0 hA2 P2 hp
      go_wp2_with (fail)
      refine (alive21 _).mono ?_
      rintro e w9 ⟨rfl, k9⟩
      go_wp2
      go_ret
      exact ⟨rfl, (K3).trans k9 (by simp)⟩
    by_cases c1 : o1 ≤ 1073741824
    case neg =>
      have c0' : ¬ ((1073741824 : Int) < o0) := by omega
      have c1' : (1073741824 : Int) < o1 := by omega
      clear c0 c1 P T hA0 hA2 P2 hp
      go_wp2_with (fail)
      refine (alive21 _).mono ?_
      rintro e w9 ⟨rfl, k9⟩
      go_wp2
      go_ret
      exact ⟨rfl, (K3).trans k9 (by simp)⟩
    have c0' : ¬ ((1073741824 : Int) < o0) := by omega
    have c1' : ¬ ((1073741824 : Int) < o1) := by omega
    have d0 := P3.cell 0
    have d1 := P3.cell 1
    have d2 := P3.cell 2
    have d3 := P3.cell 3
    simp only [List.getElem?_cons_zero, List.getElem?_cons_succ] at d0 d1 d2 d3
    clear P P2 T hA0 hA2 k2 k3 K
    go_wp2_with (fail)
    refine (lnk_new_yes ra de ji bu w3 hp).mono ?_
    rintro e w4 ⟨zx, rfl, Hx, gx, k4⟩
    have gx' : zx.From w3.heap.size := al_cons gx.1 (al_cons gx.2.1 (al_cons gx.2.2.1 (al_cons gx.2.2.2.1 (al_cons gx.2.2.2.2.1 (al_cons gx.2.2.2.2.2.1 (al_cons gx.2.2.2.2.2.2.1 (al_cons gx.2.2.2.2.2.2.2 al_nil)))))))
    have P4 := P3.keeps k4 (by simp)
    have d0 := P4.cell 0
    have d1 := P4.cell 1
    have d2 := P4.cell 2
    have d3 := P4.cell 3
    simp only [List.getElem?_cons_zero, List.getElem?_cons_succ] at d0 d1 d2 d3
    clear t0 t1
    go_wp2_with (fail)
    refine (lnk_new_yes ra de ji bu w4 hp).mono ?_
    rintro e w5 ⟨zy, rfl, Hy, gy, k5⟩
    have gy' : zy.From w4.heap.size := al_cons gy.1 (al_cons gy.2.1 (al_cons gy.2.2.1 (al_cons gy.2.2.2.1 (al_cons gy.2.2.2.2.1 (al_cons gy.2.2.2.2.2.1 (al_cons gy.2.2.2.2.2.2.1 (al_cons gy.2.2.2.2.2.2.2 al_nil)))))))
    have hfar : zx.Far zy := fun b hb hm => by have h1 := Hx.lt b hb; have h2 := gy' b hm; omega
    have hs3 : b3 ≤ w3.heap.size := by have := K3.size; omega
    have hs4 : w3.heap.size ≤ w4.heap.size := k4.size
    have h5M : b5 < w3.heap.size := T3.lt
    have fy : zy.From w3.heap.size := gy'.le hs4
    have hs5 : w3.heap.size ≤ w5.heap.size := Nat.le_trans hs4 k5.size
    have T5 := (T3.keeps k4 (by simp)).keeps k5 (by simp)
    have Hx5 := Hx.keeps0 k5
    have K5 : Keeps [] w w5 := (K3.trans k4 (by simp)).trans k5 (by simp)
    have fx := gx'
    clear Hx gx gx' gy gy' k4 k5 K3 P3 P4 T3
    generalize w3.heap.size = M3 at *
    go_wp2_with (fail)
    go_loopw [14, 15] (fun f i wr => ∃ (k fn n qx jx qy jy : Nat) (s : Lnk), k ≤ l.length ∧ i = .int .i64 k ∧ f = .int .i64 fn ∧ fn ≤ 60 * k ∧ n ≤ 60 * k ∧ LnkAt wr (zx.upd qx jx) s ∧ LnkAt wr (zy.upd qy jy) s ∧ (zx.upd qx jx).Far (zy.upd qy jy) ∧ (zx.upd qx jx).From M3 ∧ (zy.upd qy jy).From M3 ∧ s.Good ra de ji bu fn k n ∧ Keeps [] w wr ∧ Blk wr b5 77 [.int .u32 o0, .int .u32 o1] ∧ M3 ≤ wr.heap.size) (fun _ i _ => l.length - (intOf i).toNat)
    case atStart => exact ⟨0, 0, 0, zx.qp, zx.jp, zy.qp, zy.jp, Lnk.new ra de ji bu, Nat.zero_le _, rfl, rfl, by omega, by omega, Hx5, Hy, hfar, fx, fy, .inl ⟨rfl, rfl, rfl⟩, K5, T5, hs5⟩
    case round =>
      obtain ⟨k, fn, n, qx, jx, qy, jy, s, hk, rfl, rfl, hfn, hn, Hx, Hy, far, frx, fry, hg, K, T, hszM⟩ := hrel
      clear Hx5 hfar fx fy T5
      have frx3 := frx.le hs3
      have fry3 := fry.le hs3
      have hsz : b3 ≤ wr.heap.size := by have := K.size; omega
      have hl60 := hfit.1
      by_cases hlt : k < l.length
      · have hmem := List.getElem_mem hlt
        have hft := hfit.2 _ hmem
        obtain ⟨sm1, sm2, sm3⟩ := hsm _ hmem
        obtain ⟨next, E⟩ := hg.env u1 u2 u3 u4 sm2
        have hlt' : (k : Int) < l.length := by omega
        obtain ⟨ua, uw, a, rfl, sv, cv, hab, y0, y1, y2, y3, y4, ⟨us, ums, A1, c1, rfl, hlc1, hz1⟩, ⟨uc, umc, A2, c2, rfl, hlc2, hz2⟩⟩ := (h.keeps K hB (by simp)) k hlt
        have hns : Nums wr b3 (.slice A1 l[k].sizes.length c1) l[k].sizes := ⟨us, ums, A1, c1, rfl, hlc1, hz1⟩
        have hnc : Nums wr b3 (.slice A2 l[k].choices.length c2) l[k].choices := ⟨uc, umc, A2, c2, rfl, hlc2, hz2⟩
        clear hz1 hz2
        have hnow := hg.now (by omega)
        cases htk : l[k].tick with
        | true =>
          rw [htk] at y0
          have hE := E.tick (d := l[k].after) (j := 1) (w := l[k].waste) (cs := l[k].choices) ua.1 (by omega) (by omega) uw uc (by omega)
          have ut : U64 (s.now + l[k].after) := ⟨by have := ua.1; omega, by omega⟩
          have wp := u64add s.now l[k].after ⟨by omega, by omega⟩ ua (by omega)
          have hkd : Keeps [] wr wr.drew := (Keeps.refl [] wr).drew
          have htm : Calls Try.prog 16 #[.pointer (some ⟨zx.a, 0, none⟩)] wr.drew fun e w' => e = .returned (.int .u64 s.now) ∧ w' = wr.drew := lnk_time (zx.upd qx jx) s wr.drew (Hx.keeps0 hkd)
          have htx : Calls Try.prog 15 #[.pointer (some ⟨zx.a, 0, none⟩), .int .u64 (s.now + l[k].after), .int .u64 l[k].waste, .slice A2 l[k].choices.length c2] wr.drew _ := lnk_tick (zx.upd qx jx) s (s.now + l[k].after) l[k].waste l[k].choices _ n wr.drew (Hx.keeps0 hkd) E.ok (by omega) (by have := ua.1; omega) ut uw uc ((hnc.keeps hkd hsz (by simp)).ch hsz frx3)
          have h2 := h
          clear h hft sm1 sm2 sm3 hns
          go_wp2_with (fail)
          refine start_ (n := 20) (S := fun w' => w'.cell? ⟨(a.add (k * 5)).block, (a.add (k * 5)).off + 2, none⟩ = some (.int .u64 l[k].after) ∧ w'.cell? ⟨(a.add (k * 5)).block, (a.add (k * 5)).off + 3, none⟩ = some (.int .u64 l[k].waste) ∧ w'.cell? ⟨(a.add (k * 5)).block, (a.add (k * 5)).off + 4, none⟩ = some (.slice A2 l[k].choices.length c2)) (ds := [19]) #[false, false, false, false, false, false, false, false, false, false, false, false, false, false, false, false, false, false, false, false] (by kernel_rfl) rfl rfl ⟨y2, y3, y4⟩ (fun hHeld => ?_)
          refine pure_ (i := 0) (N := some 87) (v := ?_) (a' := ?_) #[true, false, false, false, false, false, false, false, false, false, false, false, false, false, false, false, false, false, false, false] rfl rfl (by kernel_rfl) (fun _ _ _ h => h) (Or.inl ⟨by rfl, ?_⟩) ?_ ?_
          rotate_left
          · intro w'
            go_simp
            with_reducible rfl
          rotate_left
          · simp only [Act.put, List.setIfInBounds_toArray, List.set_cons_zero, List.set_cons_succ, i64_w, i32_w]
            rfl
          refine pure_ (i := 1) (N := some 88) (v := ?_) (a' := ?_) #[true, true, false, false, false, false, false, false, false, false, false, false, false, false, false, false, false, false, false, false] rfl rfl (by kernel_rfl) (fun _ _ _ h => h) (Or.inl ⟨by rfl, ?_⟩) ?_ ?_
          rotate_left
          · intro w'
            go_simp
            with_reducible rfl
          rotate_left
          · simp only [Act.put, List.setIfInBounds_toArray, List.set_cons_zero, List.set_cons_succ, i64_w, i32_w]
            rfl
          refine pure_ (i := 3) (N := some 90) (v := ?_) (a' := ?_) #[true, true, false, true, false, false, false, false, false, false, false, false, false, false, false, false, false, false, false, false] rfl rfl (by kernel_rfl) (fun _ _ _ h => h) (Or.inl ⟨by rfl, ?_⟩) ?_ ?_
          rotate_left
          · intro w'
            go_simp
            with_reducible rfl
          rotate_left
          · simp only [Act.put, List.setIfInBounds_toArray, List.set_cons_zero, List.set_cons_succ, i64_w, i32_w]
            rfl
          refine pure_ (i := 4) (N := some 91) (v := ?_) (a' := ?_) #[true, true, false, true, true, false, false, false, false, false, false, false, false, false, false, false, false, false, false, false] rfl rfl (by kernel_rfl) (fun _ _ _ h => h) (Or.inl ⟨by rfl, ?_⟩) ?_ ?_
          rotate_left
          · intro w'
            go_simp
            with_reducible rfl
          rotate_left
          · simp only [Act.put, List.setIfInBounds_toArray, List.set_cons_zero, List.set_cons_succ, i64_w, i32_w]
            rfl
          refine pure_ (i := 5) (N := some 92) (v := ?_) (a' := ?_) #[true, true, false, true, true, true, false, false, false, false, false, false, false, false, false, false, false, false, false, false] rfl rfl (by kernel_rfl) (fun _ _ _ h => h) (Or.inl ⟨by rfl, ?_⟩) ?_ ?_
          rotate_left
          · intro w'
            go_simp
            with_reducible rfl
          rotate_left
          · simp only [Act.put, List.setIfInBounds_toArray, List.set_cons_zero, List.set_cons_succ, i64_w, i32_w]
            rfl
          refine pure_ (i := 6) (N := some 93) (v := ?_) (a' := ?_) #[true, true, false, true, true, true, true, false, false, false, false, false, false, false, false, false, false, false, false, false] rfl rfl (by kernel_rfl) (fun _ _ _ h => h) (Or.inl ⟨by rfl, ?_⟩) ?_ ?_
          rotate_left
          · intro w'
            go_simp
            with_reducible rfl
          rotate_left
          · simp only [Act.put, List.setIfInBounds_toArray, List.set_cons_zero, List.set_cons_succ, i64_w, i32_w]
            rfl
          refine pure_ (i := 9) (N := some 96) (v := ?_) (a' := ?_) #[true, true, false, true, true, true, true, false, false, true, false, false, false, false, false, false, false, false, false, false] rfl rfl (by kernel_rfl) (fun _ _ _ h => h) (Or.inl ⟨by rfl, ?_⟩) ?_ ?_
          rotate_left
          · intro w'
            go_simp
            with_reducible rfl
          rotate_left
          · simp only [Act.put, List.setIfInBounds_toArray, List.set_cons_zero, List.set_cons_succ, i64_w, i32_w]
            rfl
          refine pure_ (i := 10) (N := some 97) (v := ?_) (a' := ?_) #[true, true, false, true, true, true, true, false, false, true, true, false, false, false, false, false, false, false, false, false] rfl rfl (by kernel_rfl) (fun _ _ _ h => h) (Or.inl ⟨by rfl, ?_⟩) ?_ ?_
          rotate_left
          · intro w'
            go_simp
            with_reducible rfl
          rotate_left
          · simp only [Act.put, List.setIfInBounds_toArray, List.set_cons_zero, List.set_cons_succ, i64_w, i32_w]
            rfl
          refine pure_ (i := 11) (N := some 98) (v := ?_) (a' := ?_) #[true, true, false, true, true, true, true, false, false, true, true, true, false, false, false, false, false, false, false, false] rfl rfl (by kernel_rfl) (fun _ _ _ h => h) (Or.inl ⟨by rfl, ?_⟩) ?_ ?_
          rotate_left
          · intro w'
            go_simp
            with_reducible rfl
          rotate_left
          · simp only [Act.put, List.setIfInBounds_toArray, List.set_cons_zero, List.set_cons_succ, i64_w, i32_w]
            rfl
          refine pure_ (i := 12) (N := some 99) (v := ?_) (a' := ?_) #[true, true, false, true, true, true, true, false, false, true, true, true, true, false, false, false, false, false, false, false] rfl rfl (by kernel_rfl) (fun _ _ _ h => h) (Or.inl ⟨by rfl, ?_⟩) ?_ ?_
          rotate_left
          · intro w'
            go_simp
            with_reducible rfl
          rotate_left
          · simp only [Act.put, List.setIfInBounds_toArray, List.set_cons_zero, List.set_cons_succ, i64_w, i32_w]
            rfl
          refine pure_ (i := 14) (N := some 101) (v := ?_) (a' := ?_) #[true, true, false, true, true, true, true, false, false, true, true, true, true, false, true, false, false, false, false, false] rfl rfl (by kernel_rfl) (fun _ _ _ h => h) (Or.inl ⟨by rfl, ?_⟩) ?_ ?_
          rotate_left
          · intro w'
            go_simp
            with_reducible rfl
          rotate_left
          · simp only [Act.put, List.setIfInBounds_toArray, List.set_cons_zero, List.set_cons_succ, i64_w, i32_w]
            rfl
          refine pure_ (i := 15) (N := some 102) (v := ?_) (a' := ?_) #[true, true, false, true, true, true, true, false, false, true, true, true, true, false, true, true, false, false, false, false] rfl rfl (by kernel_rfl) (fun _ _ _ h => h) (Or.inl ⟨by rfl, ?_⟩) ?_ ?_
          rotate_left
          · intro w'
            go_simp
            with_reducible rfl
          rotate_left
          · simp only [Act.put, List.setIfInBounds_toArray, List.set_cons_zero, List.set_cons_succ, i64_w, i32_w]
            rfl
          refine pure_ (i := 16) (N := some 103) (v := ?_) (a' := ?_) #[true, true, false, true, true, true, true, false, false, true, true, true, true, false, true, true, true, false, false, false] rfl rfl (by kernel_rfl) (fun _ _ _ h => h) (Or.inl ⟨by rfl, ?_⟩) ?_ ?_
          rotate_left
          · intro w'
            go_simp
            with_reducible rfl
          rotate_left
          · simp only [Act.put, List.setIfInBounds_toArray, List.set_cons_zero, List.set_cons_succ, i64_w, i32_w]
            rfl
          refine pure_ (i := 17) (N := some 104) (v := ?_) (a' := ?_) #[true, true, false, true, true, true, true, false, false, true, true, true, true, false, true, true, true, true, false, false] rfl rfl (by kernel_rfl) (fun _ _ _ h => h) (Or.inl ⟨by rfl, ?_⟩) ?_ ?_
          rotate_left
          · intro w'
            go_simp
            with_reducible rfl
          rotate_left
          · simp only [Act.put, List.setIfInBounds_toArray, List.set_cons_zero, List.set_cons_succ, i64_w, i32_w]
            rfl
          refine take_ (i := 7) (N := some 94) (v := ?_) (a' := ?_) #[true, true, false, true, true, true, true, true, false, true, true, true, true, false, true, true, true, true, false, false] rfl rfl (by kernel_rfl) (fun _ _ _ h => h) (Or.inl ⟨by rfl, ?_⟩) hHeld ?_ ?_
          rotate_left
          · rintro w' ⟨s0, s1, s2⟩
            go_simp
            with_reducible rfl
          rotate_left
          · simp only [Act.put, List.setIfInBounds_toArray, List.set_cons_zero, List.set_cons_succ, i64_w, i32_w]
            rfl
          refine take_ (i := 13) (N := some 100) (v := ?_) (a' := ?_) #[true, true, false, true, true, true, true, true, false, true, true, true, true, true, true, true, true, true, false, false] rfl rfl (by kernel_rfl) (fun _ _ _ h => h) (Or.inl ⟨by rfl, ?_⟩) hHeld ?_ ?_
          rotate_left
          · rintro w' ⟨s0, s1, s2⟩
            go_simp
            with_reducible rfl
          rotate_left
          · simp only [Act.put, List.setIfInBounds_toArray, List.set_cons_zero, List.set_cons_succ, i64_w, i32_w]
            rfl
          refine take_ (i := 18) (N := some 105) (v := ?_) (a' := ?_) #[true, true, false, true, true, true, true, true, false, true, true, true, true, true, true, true, true, true, true, false] rfl rfl (by kernel_rfl) (fun _ _ _ h => h) (Or.inl ⟨by rfl, ?_⟩) hHeld ?_ ?_
          rotate_left
          · rintro w' ⟨s0, s1, s2⟩
            go_simp
            with_reducible rfl
          rotate_left
          · simp only [Act.put, List.setIfInBounds_toArray, List.set_cons_zero, List.set_cons_succ, i64_w, i32_w]
            rfl
          refine one_ (i := 2) (N := some 89) #[true, true, true, true, true, true, true, true, false, true, true, true, true, true, true, true, true, true, true, false] rfl rfl (by kernel_rfl) (by decide) (fun K hK => ?_)
          refine goes_ Try.func16 (by kernel_rfl) rfl #[.pointer (some ⟨zx.a, 0, none⟩)] (by rfl) rfl rfl (by simp only [List.map_toArray, List.map_cons, List.map_nil]; rfl) ?_
          with_reducible refine (htm).mono ?_
          rintro e w6 ⟨rfl, rfl⟩
          refine ⟨_, rfl, ?_⟩
          refine hK.out _ _ ⟨hHeld.1, hHeld.2.1, hHeld.2.2⟩ (fun hHeld => ?_)
          clear hK K
          refine norm_ (a' := ?_) ?_ ?_
          rotate_left
          · show Act.put _ (some 89) _ = _
            simp only [Act.put, List.setIfInBounds_toArray, List.set_cons_zero, List.set_cons_succ, i64_w, i32_w]
            rfl
          refine pure_ (i := 8) (N := some 95) (v := ?_) (a' := ?_) #[true, true, true, true, true, true, true, true, true, true, true, true, true, true, true, true, true, true, true, false] rfl rfl (by kernel_rfl) (fun _ _ _ h => h) (Or.inl ⟨by rfl, ?_⟩) ?_ ?_
          rotate_left
          · intro w'
            go_simp
            with_reducible rfl
          rotate_left
          · simp only [Act.put, List.setIfInBounds_toArray, List.set_cons_zero, List.set_cons_succ, i64_w, i32_w]
            rfl
          refine last_ (i := 19) (N := some 106) #[true, true, true, true, true, true, true, true, true, true, true, true, true, true, true, true, true, true, true, true] rfl rfl (by kernel_rfl) (by decide) (fun K hK => ?_)
          refine goes_ Try.func15 (by kernel_rfl) rfl #[.pointer (some ⟨zx.a, 0, none⟩), .int .u64 (s.now + l[k].after), .int .u64 l[k].waste, .slice A2 l[k].choices.length c2] (by rfl) rfl rfl (by simp only [List.map_toArray, List.map_cons, List.map_nil]; rfl) ?_
          with_reducible refine (htx).mono ?_
          rintro e w6 ⟨o6, rfl, -, -, ⟨jx', Hx', hjx⟩, k6⟩
          refine ⟨_, rfl, ?_⟩
          refine hK.out _ _ ?_
          clear hK K
          refine norm_ (a' := ?_) ?_ ?_
          rotate_left
          · show Act.put _ (some 106) _ = _
            simp only [Act.put, List.setIfInBounds_toArray, List.set_cons_zero, List.set_cons_succ, i64_w, i32_w]
            rfl
          refine done_ (by kernel_rfl) ?_
          have K6 : Keeps [] w w6 := (K.drew).trans k6 (fun b hb => .inr (by have := frx3 b hb; rw [hb_b3]; exact this))
          have ltx := Hx.lt
          have lty := Hy.lt
          have Hy6 := (Hy.keeps0 hkd).keepsAll k6 (fun b hb hm => far b hm hb)
          have hjb : M3 ≤ jx' := by
            rcases hjx with h | h
            · rw [h]; exact frx _ (by simp [LA.upd, LA.all])
            · exact Nat.le_trans hszM h
          have T6 := (T.drew).keeps k6 (frx.not_ h5M)
          have hszM6 : M3 ≤ w6.heap.size := Nat.le_trans hszM k6.size
          have far6 : (zx.upd qx jx').Far (zy.upd qy jy) := far.withJ lty hjx
          have fr6 : (zx.upd qx jx').From M3 := frx.withJ hjb
          have hsz6 : b3 ≤ w6.heap.size := by have := K6.size; omega
          replace Hx' : LnkAt w6 (zx.upd qx jx') (s.tick (s.now + l[k].after) l[k].waste l[k].choices) := Hx'
          clear htm htx k6 Hx Hy far frx hjx ltx lty y0 y1 y2 y3 y4 hnc
          obtain ⟨-, -, a', ha', sv', cv', hab', -, -, y2, y3, y4, -, ⟨-, -, A2', c2', rfl, hlc2', hz2'⟩⟩ := (h2.keeps K6 hB (by simp)) k hlt
          cases ha'
          have hnc : Nums w6 b3 (.slice A2' l[k].choices.length c2') l[k].choices := ⟨uc, umc, A2', c2', rfl, hlc2', hz2'⟩
          clear hz2'
          have hkd6 : Keeps [] w6 w6.drew := (Keeps.refl [] w6).drew
          have htm : Calls Try.prog 16 #[.pointer (some ⟨zy.a, 0, none⟩)] w6.drew fun e w' => e = .returned (.int .u64 s.now) ∧ w' = w6.drew := lnk_time (zy.upd qy jy) s w6.drew (Hy6.keeps0 hkd6)
          have hty : Calls Try.prog 15 #[.pointer (some ⟨zy.a, 0, none⟩), .int .u64 (s.now + l[k].after), .int .u64 l[k].waste, .slice A2' l[k].choices.length c2'] w6.drew _ := lnk_tick (zy.upd qy jy) s (s.now + l[k].after) l[k].waste l[k].choices _ n w6.drew (Hy6.keeps0 hkd6) E.ok (by omega) (by have := ua.1; omega) ut uw uc ((hnc.keeps hkd6 hsz6 (by simp)).ch hsz6 fry3)
          go_wp2_with (fail)
          refine start_ (n := 20) (S := fun w' => w'.cell? ⟨(a.add (k * 5)).block, (a.add (k * 5)).off + 2, none⟩ = some (.int .u64 l[k].after) ∧ w'.cell? ⟨(a.add (k * 5)).block, (a.add (k * 5)).off + 3, none⟩ = some (.int .u64 l[k].waste) ∧ w'.cell? ⟨(a.add (k * 5)).block, (a.add (k * 5)).off + 4, none⟩ = some (.slice A2' l[k].choices.length c2')) (ds := [19]) #[false, false, false, false, false, false, false, false, false, false, false, false, false, false, false, false, false, false, false, false] (by kernel_rfl) rfl rfl ⟨y2, y3, y4⟩ (fun hHeld => ?_)
          refine pure_ (i := 0) (N := some 107) (v := ?_) (a' := ?_) #[true, false, false, false, false, false, false, false, false, false, false, false, false, false, false, false, false, false, false, false] rfl rfl (by kernel_rfl) (fun _ _ _ h => h) (Or.inl ⟨by rfl, ?_⟩) ?_ ?_
          rotate_left
          · intro w'
            go_simp
            with_reducible rfl
          rotate_left
          · simp only [Act.put, List.setIfInBounds_toArray, List.set_cons_zero, List.set_cons_succ, i64_w, i32_w]
            rfl
          refine pure_ (i := 1) (N := some 108) (v := ?_) (a' := ?_) #[true, true, false, false, false, false, false, false, false, false, false, false, false, false, false, false, false, false, false, false] rfl rfl (by kernel_rfl) (fun _ _ _ h => h) (Or.inl ⟨by rfl, ?_⟩) ?_ ?_
          rotate_left
          · intro w'
            go_simp
            with_reducible rfl
          rotate_left
          · simp only [Act.put, List.setIfInBounds_toArray, List.set_cons_zero, List.set_cons_succ, i64_w, i32_w]
            rfl
          refine pure_ (i := 3) (N := some 110) (v := ?_) (a' := ?_) #[true, true, false, true, false, false, false, false, false, false, false, false, false, false, false, false, false, false, false, false] rfl rfl (by kernel_rfl) (fun _ _ _ h => h) (Or.inl ⟨by rfl, ?_⟩) ?_ ?_
          rotate_left
          · intro w'
            go_simp
            with_reducible rfl
          rotate_left
          · simp only [Act.put, List.setIfInBounds_toArray, List.set_cons_zero, List.set_cons_succ, i64_w, i32_w]
            rfl
          refine pure_ (i := 4) (N := some 111) (v := ?_) (a' := ?_) #[true, true, false, true, true, false, false, false, false, false, false, false, false, false, false, false, false, false, false, false] rfl rfl (by kernel_rfl) (fun _ _ _ h => h) (Or.inl ⟨by rfl, ?_⟩) ?_ ?_
          rotate_left
          · intro w'
            go_simp
            with_reducible rfl
          rotate_left
          · simp only [Act.put, List.setIfInBounds_toArray, List.set_cons_zero, List.set_cons_succ, i64_w, i32_w]
            rfl
          refine pure_ (i := 5) (N := some 112) (v := ?_) (a' := ?_) #[true, true, false, true, true, true, false, false, false, false, false, false, false, false, false, false, false, false, false, false] rfl rfl (by kernel_rfl) (fun _ _ _ h => h) (Or.inl ⟨by rfl, ?_⟩) ?_ ?_
          rotate_left
          · intro w'
            go_simp
            with_reducible rfl
          rotate_left
          · simp only [Act.put, List.setIfInBounds_toArray, List.set_cons_zero, List.set_cons_succ, i64_w, i32_w]
            rfl
          refine pure_ (i := 6) (N := some 113) (v := ?_) (a' := ?_) #[true, true, false, true, true, true, true, false, false, false, false, false, false, false, false, false, false, false, false, false] rfl rfl (by kernel_rfl) (fun _ _ _ h => h) (Or.inl ⟨by rfl, ?_⟩) ?_ ?_
          rotate_left
          · intro w'
            go_simp
            with_reducible rfl
          rotate_left
          · simp only [Act.put, List.setIfInBounds_toArray, List.set_cons_zero, List.set_cons_succ, i64_w, i32_w]
            rfl
          refine pure_ (i := 9) (N := some 116) (v := ?_) (a' := ?_) #[true, true, false, true, true, true, true, false, false, true, false, false, false, false, false, false, false, false, false, false] rfl rfl (by kernel_rfl) (fun _ _ _ h => h) (Or.inl ⟨by rfl, ?_⟩) ?_ ?_
          rotate_left
          · intro w'
            go_simp
            with_reducible rfl
          rotate_left
          · simp only [Act.put, List.setIfInBounds_toArray, List.set_cons_zero, List.set_cons_succ, i64_w, i32_w]
            rfl
          refine pure_ (i := 10) (N := some 117) (v := ?_) (a' := ?_) #[true, true, false, true, true, true, true, false, false, true, true, false, false, false, false, false, false, false, false, false] rfl rfl (by kernel_rfl) (fun _ _ _ h => h) (Or.inl ⟨by rfl, ?_⟩) ?_ ?_
          rotate_left
          · intro w'
            go_simp
            with_reducible rfl
          rotate_left
          · simp only [Act.put, List.setIfInBounds_toArray, List.set_cons_zero, List.set_cons_succ, i64_w, i32_w]
            rfl
          refine pure_ (i := 11) (N := some 118) (v := ?_) (a' := ?_) #[true, true, false, true, true, true, true, false, false, true, true, true, false, false, false, false, false, false, false, false] rfl rfl (by kernel_rfl) (fun _ _ _ h => h) (Or.inl ⟨by rfl, ?_⟩) ?_ ?_
          rotate_left
          · intro w'
            go_simp
            with_reducible rfl
          rotate_left
          · simp only [Act.put, List.setIfInBounds_toArray, List.set_cons_zero, List.set_cons_succ, i64_w, i32_w]
            rfl
          refine pure_ (i := 12) (N := some 119) (v := ?_) (a' := ?_) #[true, true, false, true, true, true, true, false, false, true, true, true, true, false, false, false, false, false, false, false] rfl rfl (by kernel_rfl) (fun _ _ _ h => h) (Or.inl ⟨by rfl, ?_⟩) ?_ ?_
          rotate_left
          · intro w'
            go_simp
            with_reducible rfl
          rotate_left
          · simp only [Act.put, List.setIfInBounds_toArray, List.set_cons_zero, List.set_cons_succ, i64_w, i32_w]
            rfl
          refine pure_ (i := 14) (N := some 121) (v := ?_) (a' := ?_) #[true, true, false, true, true, true, true, false, false, true, true, true, true, false, true, false, false, false, false, false] rfl rfl (by kernel_rfl) (fun _ _ _ h => h) (Or.inl ⟨by rfl, ?_⟩) ?_ ?_
          rotate_left
          · intro w'
            go_simp
            with_reducible rfl
          rotate_left
          · simp only [Act.put, List.setIfInBounds_toArray, List.set_cons_zero, List.set_cons_succ, i64_w, i32_w]
            rfl
          refine pure_ (i := 15) (N := some 122) (v := ?_) (a' := ?_) #[true, true, false, true, true, true, true, false, false, true, true, true, true, false, true, true, false, false, false, false] rfl rfl (by kernel_rfl) (fun _ _ _ h => h) (Or.inl ⟨by rfl, ?_⟩) ?_ ?_
          rotate_left
          · intro w'
            go_simp
            with_reducible rfl
          rotate_left
          · simp only [Act.put, List.setIfInBounds_toArray, List.set_cons_zero, List.set_cons_succ, i64_w, i32_w]
            rfl
          refine pure_ (i := 16) (N := some 123) (v := ?_) (a' := ?_) #[true, true, false, true, true, true, true, false, false, true, true, true, true, false, true, true, true, false, false, false] rfl rfl (by kernel_rfl) (fun _ _ _ h => h) (Or.inl ⟨by rfl, ?_⟩) ?_ ?_
          rotate_left
          · intro w'
            go_simp
            with_reducible rfl
          rotate_left
          · simp only [Act.put, List.setIfInBounds_toArray, List.set_cons_zero, List.set_cons_succ, i64_w, i32_w]
            rfl
          refine pure_ (i := 17) (N := some 124) (v := ?_) (a' := ?_) #[true, true, false, true, true, true, true, false, false, true, true, true, true, false, true, true, true, true, false, false] rfl rfl (by kernel_rfl) (fun _ _ _ h => h) (Or.inl ⟨by rfl, ?_⟩) ?_ ?_
          rotate_left
          · intro w'
            go_simp
            with_reducible rfl
          rotate_left
          · simp only [Act.put, List.setIfInBounds_toArray, List.set_cons_zero, List.set_cons_succ, i64_w, i32_w]
            rfl
          refine take_ (i := 7) (N := some 114) (v := ?_) (a' := ?_) #[true, true, false, true, true, true, true, true, false, true, true, true, true, false, true, true, true, true, false, false] rfl rfl (by kernel_rfl) (fun _ _ _ h => h) (Or.inl ⟨by rfl, ?_⟩) hHeld ?_ ?_
          rotate_left
          · rintro w' ⟨s0, s1, s2⟩
            go_simp
            with_reducible rfl
          rotate_left
          · simp only [Act.put, List.setIfInBounds_toArray, List.set_cons_zero, List.set_cons_succ, i64_w, i32_w]
            rfl
          refine take_ (i := 13) (N := some 120) (v := ?_) (a' := ?_) #[true, true, false, true, true, true, true, true, false, true, true, true, true, true, true, true, true, true, false, false] rfl rfl (by kernel_rfl) (fun _ _ _ h => h) (Or.inl ⟨by rfl, ?_⟩) hHeld ?_ ?_
          rotate_left
          · rintro w' ⟨s0, s1, s2⟩
            go_simp
            with_reducible rfl
          rotate_left
          · simp only [Act.put, List.setIfInBounds_toArray, List.set_cons_zero, List.set_cons_succ, i64_w, i32_w]
            rfl
          refine take_ (i := 18) (N := some 125) (v := ?_) (a' := ?_) #[true, true, false, true, true, true, true, true, false, true, true, true, true, true, true, true, true, true, true, false] rfl rfl (by kernel_rfl) (fun _ _ _ h => h) (Or.inl ⟨by rfl, ?_⟩) hHeld ?_ ?_
          rotate_left
          · rintro w' ⟨s0, s1, s2⟩
            go_simp
            with_reducible rfl
          rotate_left
          · simp only [Act.put, List.setIfInBounds_toArray, List.set_cons_zero, List.set_cons_succ, i64_w, i32_w]
            rfl
          refine one_ (i := 2) (N := some 109) #[true, true, true, true, true, true, true, true, false, true, true, true, true, true, true, true, true, true, true, false] rfl rfl (by kernel_rfl) (by decide) (fun K hK => ?_)
          refine goes_ Try.func16 (by kernel_rfl) rfl #[.pointer (some ⟨zy.a, 0, none⟩)] (by rfl) rfl rfl (by simp only [List.map_toArray, List.map_cons, List.map_nil]; rfl) ?_
          with_reducible refine (htm).mono ?_
          rintro e w7 ⟨rfl, rfl⟩
          refine ⟨_, rfl, ?_⟩
          refine hK.out _ _ ⟨hHeld.1, hHeld.2.1, hHeld.2.2⟩ (fun hHeld => ?_)
          clear hK K
          refine norm_ (a' := ?_) ?_ ?_
          rotate_left
          · show Act.put _ (some 109) _ = _
            simp only [Act.put, List.setIfInBounds_toArray, List.set_cons_zero, List.set_cons_succ, i64_w, i32_w]
            rfl
          refine pure_ (i := 8) (N := some 115) (v := ?_) (a' := ?_) #[true, true, true, true, true, true, true, true, true, true, true, true, true, true, true, true, true, true, true, false] rfl rfl (by kernel_rfl) (fun _ _ _ h => h) (Or.inl ⟨by rfl, ?_⟩) ?_ ?_
          rotate_left
          · intro w'
            go_simp
            with_reducible rfl
          rotate_left
          · simp only [Act.put, List.setIfInBounds_toArray, List.set_cons_zero, List.set_cons_succ, i64_w, i32_w]
            rfl
          refine last_ (i := 19) (N := some 126) #[true, true, true, true, true, true, true, true, true, true, true, true, true, true, true, true, true, true, true, true] rfl rfl (by kernel_rfl) (by decide) (fun K hK => ?_)
          refine goes_ Try.func15 (by kernel_rfl) rfl #[.pointer (some ⟨zy.a, 0, none⟩), .int .u64 (s.now + l[k].after), .int .u64 l[k].waste, .slice A2' l[k].choices.length c2'] (by rfl) rfl rfl (by simp only [List.map_toArray, List.map_cons, List.map_nil]; rfl) ?_
          with_reducible refine (hty).mono ?_
          rintro e w7 ⟨o7, rfl, -, -, ⟨jy', Hy', hjy⟩, k7⟩
          refine ⟨_, rfl, ?_⟩
          refine hK.out _ _ ?_
          clear hK K
          refine norm_ (a' := ?_) ?_ ?_
          rotate_left
          · show Act.put _ (some 126) _ = _
            simp only [Act.put, List.setIfInBounds_toArray, List.set_cons_zero, List.set_cons_succ, i64_w, i32_w]
            rfl
          refine done_ (by kernel_rfl) ?_
          have K7 : Keeps [] w w7 := (K6.drew).trans k7 (fun b hb => .inr (by have := fry3 b hb; rw [hb_b3]; exact this))
          have ltx := Hx'.lt
          have Hx7 := (Hx'.keeps0 hkd6).keepsAll k7 (fun b hb hm => far6 b hb hm)
          have hjb7 : M3 ≤ jy' := by
            rcases hjy with h | h
            · rw [h]; exact fry _ (by simp [LA.upd, LA.all])
            · exact Nat.le_trans hszM6 h
          have T7 := (T6.drew).keeps k7 (fry.not_ h5M)
          have hszM7 : M3 ≤ w7.heap.size := Nat.le_trans hszM6 k7.size
          have far7 : (zx.upd qx jx').Far (zy.upd qy jy') := (far6.symm.withJ ltx hjy).symm
          have fr7 : (zy.upd qy jy').From M3 := fry.withJ hjb7
          replace Hy' : LnkAt w7 (zy.upd qy jy') (s.tick (s.now + l[k].after) l[k].waste l[k].choices) := Hy'
          clear htm hty k7 Hx' Hy6 far6 fry hjy ltx y2 y3 y4 hnc wp
          go_wp2_with (fail)
          go_roundw
          case rel => exact ⟨k + 1, fn, n, qx, jx', qy, jy', _, by omega, by go_num, rfl, by omega, by omega, Hx7, Hy', far7, fr6, fr7, .inr ⟨_, hE.1⟩, K7, T7, hszM7⟩
          case measure => simp [intOf]; omega
        | false =>
          rw [htk] at y0
          have hlp := pkts_len l[k].sizes fn
          have hus : ∀ p ∈ pkts fn l[k].sizes, U64 p.size := pkts_size _ _ _ us
          have hus2 : ∀ x ∈ l[k].sizes, 0 ≤ x ∧ x ≤ 1073741824 := fun x hx => ⟨(us x hx).1, sm3 x hx⟩
          have hE := E.send l[k].sizes hus2 (by omega)
          have hpk := packets_calls fn b3 _ l[k].sizes wr hns hsz (by omega) (by omega)
          have h2 := h
          clear h sm1 sm2 sm3 hnc
          go_wp2_with (fail)
          refine hpk.mono ?_
          rintro e w6 ⟨o, rfl, R, hfo, k6⟩
          have Hx6 := Hx.keeps0 k6
          have Hy6 := Hy.keeps0 k6
          have K6 := K.trans k6 (by simp)
          have hsz6 := k6.size
          have ltx := Hx.lt
          have lty := Hy.lt
          have ltx6 := Hx6.lt
          have hoq : o.ownBlock ≠ some qx := fun hc => by have h1 := hfo _ hc; have h2 := ltx qx (by simp [LA.upd, LA.all]); omega
          have hsx : Calls Try.prog 18 #[.pointer (some ⟨zx.a, 0, none⟩), o] w6 _ := lnk_send (zx.upd qx jx) s (pkts fn l[k].sizes) o n w6 Hx6 E.ok R hoq hus (by omega)
          obtain ⟨Ao, co, rfl⟩ := R.formN (n := l[k].sizes.length) (by simp [hlp])
          have hT6 := T.keeps k6 (by simp)
          clear hpk Hx Hy y0 y1 y2 y3 y4 hns
          have hl1 : (0 : Int) ≤ (fn : Int) ∧ (fn : Int) ≤ 3600 ∧ (0 : Int) ≤ (l[k].sizes.length : Int) ∧ (l[k].sizes.length : Int) ≤ 60 := by omega
          have q1 := i64k ((fn : Int) + (l[k].sizes.length : Int)) (by omega) (by omega)
          have q2 := i64w ((fn : Int) + (l[k].sizes.length : Int)) (by omega) (by omega)
          go_wp2_with (fail)
          clear q1 q2
          refine hsx.mono ?_
          rintro e w7 ⟨rfl, ⟨qx', Hx', hqx⟩, k7⟩
          have K7 : Keeps [] w w7 := K6.trans k7 (fun b hb => .inr (by have := frx3 b (sendB _ b hb); rw [hb_b3]; exact this))
          have T7 := hT6.keeps k7 (fun hm => frx.not_ h5M (sendB _ _ hm))
          have hszM7 : M3 ≤ w7.heap.size := Nat.le_trans (Nat.le_trans hszM hsz6) k7.size
          have hqb : M3 ≤ qx' := by
            rcases hqx with h | h
            · rw [h]; exact frx _ (by simp [LA.upd, LA.all])
            · omega
          have Hy7 := Hy6.keepsAll k7 (fun b hb hm => far b (sendB _ b hm) hb)
          have R7 := R.keeps k7 (by intro b hb hm; have h1 := hfo b hb; have h2 := ltx b (sendB _ b hm); omega)
          have far7 : (zx.upd qx' jx).Far (zy.upd qy jy) := far.withQ (M := wr.heap.size) lty (hqx.imp id (fun h => by omega))
          have fr7 : (zx.upd qx' jx).From M3 := frx.withQ hqb
          replace Hx' : LnkAt w7 (zx.upd qx' jx) (s.send (pkts fn l[k].sizes)) := Hx'
          have hoy : (Value.slice Ao l[k].sizes.length co).ownBlock ≠ some qy := fun hc => by have h1 := hfo _ hc; have h2 := lty qy (by simp [LA.upd, LA.all]); omega
          have hsy : Calls Try.prog 18 #[.pointer (some ⟨zy.a, 0, none⟩), .slice Ao l[k].sizes.length co] w7 _ := lnk_send (zy.upd qy jy) s (pkts fn l[k].sizes) _ n w7 Hy7 E.ok R7 hoy hus (by omega)
          have ltx7 := Hx'.lt
          clear hsx Hy6 R k7 hqx ltx lty ltx6 Hx6
          go_wp2_with (fail)
          refine hsy.mono ?_
          rintro e w8 ⟨rfl, ⟨qy', Hy', hqy⟩, k8⟩
          have K8 : Keeps [] w w8 := K7.trans k8 (fun b hb => .inr (by have := fry3 b (sendB _ b hb); rw [hb_b3]; exact this))
          have hsz7 : b3 ≤ w7.heap.size := by have := K7.size; omega
          have T8 := T7.keeps k8 (fun hm => fry.not_ h5M (sendB _ _ hm))
          have hszM8 : M3 ≤ w8.heap.size := Nat.le_trans hszM7 k8.size
          have hqb8 : M3 ≤ qy' := by
            rcases hqy with h | h
            · rw [h]; exact fry _ (by simp [LA.upd, LA.all])
            · omega
          have Hx8 := Hx'.keepsAll k8 (fun b hb hm => far7 b hb (sendB _ b hm))
          have far8 : (zx.upd qx' jx).Far (zy.upd qy' jy) := (far7.symm.withQ ltx7 hqy).symm
          have fr8 : (zy.upd qy' jy).From M3 := fry.withQ hqb8
          replace Hy' : LnkAt w8 (zy.upd qy' jy) (s.send (pkts fn l[k].sizes)) := Hy'
          have ek : k ≤ k + 1 := by omega
          have hE1 : (s.send (pkts fn l[k].sizes)).Env ra bu next ((fn + l[k].sizes.length : Nat) : Int) (k + 1) (n + l[k].sizes.length) := { hE with nowB := by have := hE.nowB; omega }
          clear hsy Hx' Hy7 R7 k8 far far7 hqy fry ltx7 hE
          have hft' := (hfit.2 _ hmem).1
          go_wp2_with (fail)
          go_roundw
          case rel => exact ⟨k + 1, fn + l[k].sizes.length, n + l[k].sizes.length, qx', jx, qy', jy, _, by omega, by go_num, by go_num, by omega, by omega, Hx8, Hy', far8, fr7, fr8, .inr ⟨_, hE1⟩, K8, T8, hszM8⟩
          case measure => simp [intOf]; omega
      · obtain rfl : k = l.length := by omega
        have hf4 : fn ≤ 4000 := by omega
        have ok := hg.ok u1 u2 u3 u4
        have hnow := hg.now hl60
        obtain ⟨s1, s2, s3, s4, s5⟩ := hg.served u1 v0.1 c0 v1.1 c1 hl60 hf4
        have un : U64 s.now := ⟨hnow.1, by omega⟩
        have ua : U64 (s.now + o0) := ⟨by omega, by omega⟩
        have ub : U64 (s.now + o0 + o1) := ⟨by omega, by omega⟩
        have z0 : U64 0 := ⟨by decide, by decide⟩
        have le1 : s.now ≤ s.now + o0 + o1 := by omega
        have le2 : s.now ≤ s.now + o0 := by omega
        have le3 : s.now + o0 ≤ s.now + o0 + o1 := by omega
        have okx := ok.tick (cs := []) le1 ub z0 (by simp)
        have oky := ok.tick (cs := []) le2 ua z0 (by simp)
        have hny : (s.tick (s.now + o0) 0 []).now ≤ s.now + o0 + o1 := by rw [Lnk.tick_now]; exact le3
        have oky2 := oky.tick (cs := []) hny ub z0 (by simp)
        obtain ⟨x1, hx1⟩ : ∃ x, Hid (x = s.tick (s.now + o0 + o1) 0 []) := ⟨_, rfl⟩
        obtain ⟨y1, hy1⟩ : ∃ x, Hid (x = s.tick (s.now + o0) 0 []) := ⟨_, rfl⟩
        rw [← hx1.out] at s1 s2 s3 s4 s5 okx
        rw [← hy1.out] at s1 s2 s3 s4 s5 oky hny oky2
        obtain ⟨y2, hy2⟩ : ∃ x, Hid (x = y1.tick (s.now + o0 + o1) 0 []) := ⟨_, rfl⟩
        rw [← hy2.out] at s1 s2 s3 s4 s5 oky2
        have e1 : (x1.served == y2.served) = true := beq_iff_eq.2 s1
        have e2 : (x1.Q.bytes == y2.Q.bytes) = true := beq_iff_eq.2 s2
        have e3 : (x1.Q.gone == y2.Q.gone) = true := beq_iff_eq.2 s3
        have e4 : (x1.B.tok == y2.B.tok) = true := beq_iff_eq.2 s4
        have e5 : (x1.B.was == y2.B.was) = true := beq_iff_eq.2 s5
        replace e1 : Hid _ := e1
        replace e2 : Hid _ := e2
        replace e3 : Hid _ := e3
        replace e4 : Hid _ := e4
        replace e5 : Hid _ := e5
        clear s1 s2 s3 s4 s5 hsm h hfit
        have hn9 : n ≤ 900000 := by omega
        have t0 := T.cell 0
        have t1 := T.cell 1
        simp only [List.getElem?_cons_zero, List.getElem?_cons_succ] at t0 t1
        have hkd : Keeps [] wr wr.drew := (Keeps.refl [] wr).drew
        have htm : Calls Try.prog 16 #[.pointer (some ⟨zx.a, 0, none⟩)] wr.drew fun e w' => e = .returned (.int .u64 s.now) ∧ w' = wr.drew := lnk_time (zx.upd qx jx) s wr.drew (Hx.keeps0 hkd)
        have uo0 : U64 o0 := ⟨v0.1, by omega⟩
        have uo1 : U64 o1 := ⟨v1.1, by omega⟩
        have wq0 := u64add o0 0 uo0 z0 (by omega)
        have wq1 := u64add o1 0 uo1 z0 (by omega)
        have wq2 := u64add s.now o0 un uo0 ua.2
        have wq3 := u64add (s.now + o0) o1 ua uo1 ub.2
        rw [Int.add_zero] at wq0 wq1
        go_wp2_with (fail)
        refine start_ (n := 11) (S := fun w' => w'.cell? ⟨b5, 0, none⟩ = some (.int .u32 o0) ∧ w'.cell? ⟨b5, 1, none⟩ = some (.int .u32 o1)) (ds := []) #[false, false, false, false, false, false, false, false, false, false, false] (by kernel_rfl) rfl rfl ⟨t0, t1⟩ (fun hHeld => ?_)
        refine pure_ (i := 0) (N := some 144) (v := ?_) (a' := ?_) #[true, false, false, false, false, false, false, false, false, false, false] rfl rfl (by kernel_rfl) (fun _ _ _ h => h) (Or.inl ⟨by rfl, ?_⟩) ?_ ?_
        rotate_left
        · intro w'
          go_simp
          with_reducible rfl
        rotate_left
        · simp only [Act.put, List.setIfInBounds_toArray, List.set_cons_zero, List.set_cons_succ, i64_w, i32_w]
          rfl
        refine pure_ (i := 2) (N := some 146) (v := ?_) (a' := ?_) #[true, false, true, false, false, false, false, false, false, false, false] rfl rfl (by kernel_rfl) (fun _ _ _ h => h) (Or.inl ⟨by rfl, ?_⟩) ?_ ?_
        rotate_left
        · intro w'
          go_simp
          with_reducible rfl
        rotate_left
        · simp only [Act.put, List.setIfInBounds_toArray, List.set_cons_zero, List.set_cons_succ, i64_w, i32_w]
          rfl
        refine pure_ (i := 6) (N := some 150) (v := ?_) (a' := ?_) #[true, false, true, false, false, false, true, false, false, false, false] rfl rfl (by kernel_rfl) (fun _ _ _ h => h) (Or.inl ⟨by rfl, ?_⟩) ?_ ?_
        rotate_left
        · intro w'
          go_simp
          with_reducible rfl
        rotate_left
        · simp only [Act.put, List.setIfInBounds_toArray, List.set_cons_zero, List.set_cons_succ, i64_w, i32_w]
          rfl
        refine take_ (i := 3) (N := some 147) (v := ?_) (a' := ?_) #[true, false, true, true, false, false, true, false, false, false, false] rfl rfl (by kernel_rfl) (fun _ _ _ h => h) (Or.inl ⟨by rfl, ?_⟩) hHeld ?_ ?_
        rotate_left
        · rintro w' ⟨s0, s1⟩
          go_simp
          with_reducible rfl
        rotate_left
        · simp only [Act.put, List.setIfInBounds_toArray, List.set_cons_zero, List.set_cons_succ, i64_w, i32_w]
          rfl
        refine pure_ (i := 4) (N := some 148) (v := ?_) (a' := ?_) #[true, false, true, true, true, false, true, false, false, false, false] rfl rfl (by kernel_rfl) (fun _ _ _ h => h) (Or.inl ⟨by rfl, ?_⟩) ?_ ?_
        rotate_left
        · intro w'
          go_simp
          with_reducible rfl
        rotate_left
        · simp only [Act.put, List.setIfInBounds_toArray, List.set_cons_zero, List.set_cons_succ, i64_w, i32_w]
          rfl
        refine take_ (i := 7) (N := some 151) (v := ?_) (a' := ?_) #[true, false, true, true, true, false, true, true, false, false, false] rfl rfl (by kernel_rfl) (fun _ _ _ h => h) (Or.inl ⟨by rfl, ?_⟩) hHeld ?_ ?_
        rotate_left
        · rintro w' ⟨s0, s1⟩
          go_simp
          with_reducible rfl
        rotate_left
        · simp only [Act.put, List.setIfInBounds_toArray, List.set_cons_zero, List.set_cons_succ, i64_w, i32_w]
          rfl
        refine pure_ (i := 8) (N := some 152) (v := ?_) (a' := ?_) #[true, false, true, true, true, false, true, true, true, false, false] rfl rfl (by kernel_rfl) (fun _ _ _ h => h) (Or.inl ⟨by rfl, ?_⟩) ?_ ?_
        rotate_left
        · intro w'
          go_simp
          with_reducible rfl
        rotate_left
        · simp only [Act.put, List.setIfInBounds_toArray, List.set_cons_zero, List.set_cons_succ, i64_w, i32_w]
          rfl
        refine one_ (i := 1) (N := some 145) #[true, true, true, true, true, false, true, true, true, false, false] rfl rfl (by kernel_rfl) (by decide) (fun K hK => ?_)
        refine goes_ Try.func16 (by kernel_rfl) rfl #[.pointer (some ⟨zx.a, 0, none⟩)] (by rfl) rfl rfl (by simp only [List.map_toArray, List.map_cons, List.map_nil]; rfl) ?_
        with_reducible refine (htm).mono ?_
        rintro e w6 ⟨rfl, rfl⟩
        refine ⟨_, rfl, ?_⟩
        refine hK.out _ _ ⟨hHeld.1, hHeld.2⟩ (fun hHeld => ?_)
        clear hK K
        refine norm_ (a' := ?_) ?_ ?_
        rotate_left
        · show Act.put _ (some 145) _ = _
          simp only [Act.put, List.setIfInBounds_toArray, List.set_cons_zero, List.set_cons_succ, i64_w, i32_w]
          rfl
        refine pure_ (i := 5) (N := some 149) (v := ?_) (a' := ?_) #[true, true, true, true, true, true, true, true, true, false, false] rfl rfl (by kernel_rfl) (fun _ _ _ h => h) (Or.inl ⟨by rfl, ?_⟩) ?_ ?_
        rotate_left
        · intro w'
          go_simp
          with_reducible rfl
        rotate_left
        · simp only [Act.put, List.setIfInBounds_toArray, List.set_cons_zero, List.set_cons_succ, i64_w, i32_w]
          rfl
        refine pure_ (i := 9) (N := some 153) (v := ?_) (a' := ?_) #[true, true, true, true, true, true, true, true, true, true, false] rfl rfl (by kernel_rfl) (fun _ _ _ h => h) (Or.inl ⟨by rfl, ?_⟩) ?_ ?_
        rotate_left
        · intro w'
          go_simp
          with_reducible rfl
        rotate_left
        · simp only [Act.put, List.setIfInBounds_toArray, List.set_cons_zero, List.set_cons_succ, i64_w, i32_w]
          rfl
        refine pure_ (i := 10) (N := some 17) (v := ?_) (a' := ?_) #[true, true, true, true, true, true, true, true, true, true, true] rfl rfl (by kernel_rfl) (fun _ _ _ h => h) (Or.inl ⟨by rfl, ?_⟩) ?_ ?_
        rotate_left
        · intro w'
          go_simp
          with_reducible rfl
        rotate_left
        · simp only [Act.put, List.setIfInBounds_toArray, List.set_cons_zero, List.set_cons_succ, i64_w, i32_w]
          rfl
        refine done_ (by kernel_rfl) ?_
        clear htm hHeld
        refine exit_at (fun W => LnkAt W (zx.upd qx jx) s ∧ LnkAt W (zy.upd qy jy) s ∧ Blk W b5 77 [.int .u32 o0, .int .u32 o1] ∧ Keeps [] w W ∧ M3 ≤ W.heap.size) ⟨Hx.keeps0 hkd, Hy.keeps0 hkd, T.drew, K.drew, hszM⟩ ?_
        clear Hx Hy T K hszM hkd t0 t1
        rintro Wa ⟨Hx, Hy, T, K, hszM⟩
        have t0 := T.cell 0
        simp only [List.getElem?_cons_zero] at t0
        have hkd : Keeps [] Wa Wa.drew := (Keeps.refl [] Wa).drew
        have htm : Calls Try.prog 16 #[.pointer (some ⟨zy.a, 0, none⟩)] Wa.drew fun e w' => e = .returned (.int .u64 s.now) ∧ w' = Wa.drew := lnk_time (zy.upd qy jy) s Wa.drew (Hy.keeps0 hkd)
        have hty : Calls Try.prog 15 #[.pointer (some ⟨zy.a, 0, none⟩), .int .u64 (s.now + o0), .int .u64 0, .slice none 0 0] Wa.drew _ := lnk_tick (zy.upd qy jy) s (s.now + o0) 0 [] _ n Wa.drew (Hy.keeps0 hkd) ok hn9 le2 ua z0 (by simp) (ch_nil _ _)
        rw [← hy1.out] at hty
        go_wp2_with (fail)
        refine start_ (n := 8) (S := fun w' => w'.cell? ⟨b5, 0, none⟩ = some (.int .u32 o0)) (ds := [7]) #[false, false, false, false, false, false, false, false] (by kernel_rfl) rfl rfl (t0) (fun hHeld => ?_)
        refine pure_ (i := 0) (N := some 154) (v := ?_) (a' := ?_) #[true, false, false, false, false, false, false, false] rfl rfl (by kernel_rfl) (fun _ _ _ h => h) (Or.inl ⟨by rfl, ?_⟩) ?_ ?_
        rotate_left
        · intro w'
          go_simp
          with_reducible rfl
        rotate_left
        · simp only [Act.put, List.setIfInBounds_toArray, List.set_cons_zero, List.set_cons_succ, i64_w, i32_w]
          rfl
        refine pure_ (i := 1) (N := some 155) (v := ?_) (a' := ?_) #[true, true, false, false, false, false, false, false] rfl rfl (by kernel_rfl) (fun _ _ _ h => h) (Or.inl ⟨by rfl, ?_⟩) ?_ ?_
        rotate_left
        · intro w'
          go_simp
          with_reducible rfl
        rotate_left
        · simp only [Act.put, List.setIfInBounds_toArray, List.set_cons_zero, List.set_cons_succ, i64_w, i32_w]
          rfl
        refine pure_ (i := 3) (N := some 157) (v := ?_) (a' := ?_) #[true, true, false, true, false, false, false, false] rfl rfl (by kernel_rfl) (fun _ _ _ h => h) (Or.inl ⟨by rfl, ?_⟩) ?_ ?_
        rotate_left
        · intro w'
          go_simp
          with_reducible rfl
        rotate_left
        · simp only [Act.put, List.setIfInBounds_toArray, List.set_cons_zero, List.set_cons_succ, i64_w, i32_w]
          rfl
        refine take_ (i := 4) (N := some 158) (v := ?_) (a' := ?_) #[true, true, false, true, true, false, false, false] rfl rfl (by kernel_rfl) (fun _ _ _ h => h) (Or.inl ⟨by rfl, ?_⟩) hHeld ?_ ?_
        rotate_left
        · intro w' s0
          go_simp
          with_reducible rfl
        rotate_left
        · simp only [Act.put, List.setIfInBounds_toArray, List.set_cons_zero, List.set_cons_succ, i64_w, i32_w]
          rfl
        refine pure_ (i := 5) (N := some 159) (v := ?_) (a' := ?_) #[true, true, false, true, true, true, false, false] rfl rfl (by kernel_rfl) (fun _ _ _ h => h) (Or.inl ⟨by rfl, ?_⟩) ?_ ?_
        rotate_left
        · intro w'
          go_simp
          with_reducible rfl
        rotate_left
        · simp only [Act.put, List.setIfInBounds_toArray, List.set_cons_zero, List.set_cons_succ, i64_w, i32_w]
          rfl
        refine one_ (i := 2) (N := some 156) #[true, true, true, true, true, true, false, false] rfl rfl (by kernel_rfl) (by decide) (fun K hK => ?_)
        refine goes_ Try.func16 (by kernel_rfl) rfl #[.pointer (some ⟨zy.a, 0, none⟩)] (by rfl) rfl rfl (by simp only [List.map_toArray, List.map_cons, List.map_nil]; rfl) ?_
        with_reducible refine (htm).mono ?_
        rintro e w6 ⟨rfl, rfl⟩
        refine ⟨_, rfl, ?_⟩
        refine hK.out _ _ (hHeld) (fun hHeld => ?_)
        clear hK K
        refine norm_ (a' := ?_) ?_ ?_
        rotate_left
        · show Act.put _ (some 156) _ = _
          simp only [Act.put, List.setIfInBounds_toArray, List.set_cons_zero, List.set_cons_succ, i64_w, i32_w]
          rfl
        refine pure_ (i := 6) (N := some 160) (v := ?_) (a' := ?_) #[true, true, true, true, true, true, true, false] rfl rfl (by kernel_rfl) (fun _ _ _ h => h) (Or.inl ⟨by rfl, ?_⟩) ?_ ?_
        rotate_left
        · intro w'
          go_simp
          with_reducible rfl
        rotate_left
        · simp only [Act.put, List.setIfInBounds_toArray, List.set_cons_zero, List.set_cons_succ, i64_w, i32_w]
          rfl
        refine last_ (i := 7) (N := some 161) #[true, true, true, true, true, true, true, true] rfl rfl (by kernel_rfl) (by decide) (fun K hK => ?_)
        refine goes_ Try.func15 (by kernel_rfl) rfl #[.pointer (some ⟨zy.a, 0, none⟩), .int .u64 (s.now + o0), .int .u64 0, .slice none 0 0] (by rfl) rfl rfl (by simp only [List.map_toArray, List.map_cons, List.map_nil]; rfl) ?_
        with_reducible refine (hty).mono ?_
        rintro e w6 ⟨o6, rfl, -, -, ⟨jy1, Hy1, hjy1⟩, k6⟩
        refine ⟨_, rfl, ?_⟩
        refine hK.out _ _ ?_
        clear hK K
        refine norm_ (a' := ?_) ?_ ?_
        rotate_left
        · show Act.put _ (some 161) _ = _
          simp only [Act.put, List.setIfInBounds_toArray, List.set_cons_zero, List.set_cons_succ, i64_w, i32_w]
          rfl
        refine done_ (by kernel_rfl) ?_
        clear wq0 wq1 wq2 wq3
        have Hx6 := (Hx.keeps0 hkd).keepsAll k6 (fun b hb hm => far b hb hm)
        have lx := Hx.lt
        have far6 : (zx.upd qx jx).Far (zy.upd qy jy1) := (far.symm.withJ (M := Wa.heap.size) lx hjy1).symm
        have K6 := (K.drew).trans k6 (fun b hb => .inr (by have := fry3 b hb; rw [hb_b3]; exact this))
        have fry6 : (zy.upd qy jy1).From b3 := fry3.withJ (by
          rcases hjy1 with h | h
          · rw [h]; exact fry3 _ (by simp [LA.upd, LA.all])
          · exact Nat.le_trans (Nat.le_trans hs3 hszM) h)
        replace Hy1 : LnkAt w6 (zy.upd qy jy1) y1 := Hy1
        clear htm hty k6 Hx Hy K t0 T far hjy1 lx hkd
        have htx : Calls Try.prog 15 #[.pointer (some ⟨zx.a, 0, none⟩), .int .u64 (s.now + o0 + o1), .int .u64 0, .slice none 0 0] w6 _ := lnk_tick (zx.upd qx jx) s (s.now + o0 + o1) 0 [] _ n w6 Hx6 ok hn9 le1 ub z0 (by simp) (ch_nil _ _)
        rw [← hx1.out] at htx
        go_wp2_with (fail)
        refine htx.mono ?_
        rintro e w7 ⟨o7, rfl, -, -, ⟨jx1, Hx1, hjx1⟩, k7⟩
        have Hy7 := Hy1.keepsAll k7 (fun b hb hm => far6 b hm hb)
        have ly := Hy1.lt
        have far7 : (zx.upd qx jx1).Far (zy.upd qy jy1) := far6.withJ ly hjx1
        have K7 := K6.trans k7 (fun b hb => .inr (by have := frx3 b hb; rw [hb_b3]; exact this))
        replace Hx1 : LnkAt w7 (zx.upd qx jx1) x1 := Hx1
        clear htx k7 Hx6 Hy1 K6 far6 hjx1 ly
        have hty : Calls Try.prog 15 #[.pointer (some ⟨zy.a, 0, none⟩), .int .u64 (s.now + o0 + o1), .int .u64 0, .slice none 0 0] w7 _ := lnk_tick (zy.upd qy jy1) y1 (s.now + o0 + o1) 0 [] _ n w7 Hy7 oky hn9 hny ub z0 (by simp) (ch_nil _ _)
        rw [← hy2.out] at hty
        go_wp2_with (fail)
        refine hty.mono ?_
        rintro e w8 ⟨o8, rfl, -, -, ⟨jy2, Hy2, hjy2⟩, k8⟩
        have Hx8 := Hx1.keepsAll k8 (fun b hb hm => far7 b hb hm)
        have K8 := K7.trans k8 (fun b hb => .inr (by have := fry6 b hb; rw [hb_b3]; exact this))
        replace Hy2 : LnkAt w8 (zy.upd qy jy2) y2 := Hy2
        clear hty k8 Hx1 Hy7 K7 far7 hjy2
        have hcx : Calls Try.prog 19 #[.pointer (some ⟨zx.a, 0, none⟩)] w8 _ := lnk_count (zx.upd qx jx1) x1 n w8 Hx8 okx hn9
        simp only [Lnk.count] at hcx
        go_wp2_with (fail)
        refine hcx.mono ?_
        rintro e w9 ⟨rfl, k9⟩
        have ka : Keeps [] w9 (w9.alloc (.cells #[.int .u64 x1.came, .int .u64 x1.Q.gone, .int .u64 x1.Q.bytes, .int .u64 x1.served, .int .u64 x1.under, .int .u64 x1.delivered] 44)) := (Keeps.refl _ _).alloc _
        have C1 := Blk.new w9 44 [.int .u64 x1.came, .int .u64 x1.Q.gone, .int .u64 x1.Q.bytes, .int .u64 x1.served, .int .u64 x1.under, .int .u64 x1.delivered]
        have Hx9 := (Hx8.keeps0 k9).keeps0 ka
        have Hy9 := (Hy2.keeps0 k9).keeps0 ka
        have K9 := (K8.trans k9 (by simp)).trans ka (by simp)
        have hcy : Calls Try.prog 19 #[.pointer (some ⟨zy.a, 0, none⟩)] _ _ := lnk_count (zy.upd qy jy2) y2 n _ Hy9 oky2 hn9
        simp only [Lnk.count] at hcy
        clear hcx k9 Hx8 Hy2 K8 ka
        go_wp2_with (fail)
        refine hcy.mono ?_
        rintro e w10 ⟨rfl, k10⟩
        have ka : Keeps [] w10 (w10.alloc (.cells #[.int .u64 y2.came, .int .u64 y2.Q.gone, .int .u64 y2.Q.bytes, .int .u64 y2.served, .int .u64 y2.under, .int .u64 y2.delivered] 44)) := (Keeps.refl _ _).alloc _
        have C2 := Blk.new w10 44 [.int .u64 y2.came, .int .u64 y2.Q.gone, .int .u64 y2.Q.bytes, .int .u64 y2.served, .int .u64 y2.under, .int .u64 y2.delivered]
        have C1' := (C1.keeps k10 (by simp)).keeps ka (by simp)
        have Hx10 := (Hx9.keeps0 k10).keeps0 ka
        have Hy10 := (Hy9.keeps0 k10).keeps0 ka
        have K10 := (K9.trans k10 (by simp)).trans ka (by simp)
        clear hcy k10 Hx9 Hy9 K9 ka C1
        have hox : Calls Try.prog 28 #[.pointer (some ⟨zx.a, 0, none⟩)] _ _ := lnk_tokens (zx.upd qx jx1) x1 _ Hx10
        go_wp2_with (fail)
        refine hox.mono ?_
        rintro e w11 ⟨rfl, k11⟩
        have hoy : Calls Try.prog 28 #[.pointer (some ⟨zy.a, 0, none⟩)] _ _ := lnk_tokens (zy.upd qy jy2) y2 w11 (Hy10.keeps0 k11)
        go_wp2_with (fail)
        refine hoy.mono ?_
        rintro e w12 ⟨rfl, k12⟩
        have K12 := (K10.trans k11 (by simp)).trans k12 (by simp)
        have D1 := (C1'.keeps k11 (by simp)).keeps k12 (by simp)
        have D2 := (C2.keeps k11 (by simp)).keeps k12 (by simp)
        clear hox hoy k11 k12 Hx10 Hy10 K10 C1' C2
        generalize w9.heap.size = b18 at *
        generalize w10.heap.size = b19 at *
        go_wp2_with (fail)
        refine (alive21 w12).mono ?_
        rintro e w13 ⟨rfl, k13⟩
        have F1 := D1.keeps k13 (by simp)
        have F2 := D2.keeps k13 (by simp)
        have f11 := F1.cell 1
        have f12 := F1.cell 2
        have f13 := F1.cell 3
        have f21 := F2.cell 1
        have f22 := F2.cell 2
        have f23 := F2.cell 3
        simp only [List.getElem?_cons_zero, List.getElem?_cons_succ] at f11 f12 f13 f21 f22 f23
        have e1' := e1.out
        have e2' := e2.out
        have e3' := e3.out
        have e4' := e4.out
        have e5' := e5.out
        go_wp2
        go_ret
        exact ⟨rfl, K12.trans k13 (by simp)⟩
end Go.Proofs.Ytjnojomfaikfjaa
