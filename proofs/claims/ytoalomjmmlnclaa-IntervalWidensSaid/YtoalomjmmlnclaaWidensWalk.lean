/- The walk of 'IntervalWidens': for every interval and every slice of intervals the call answers true. -/
import Derived.Test.YtoalomjmmlnclaaIvlF
import Derived.Test.YtoalomjmmlnclaaIvlWiden
import Derived.Test.YtoalomjmmlnclaaIvlPot
import Derived.Test.YtoalomjmmlnclaaElems
import Derived.Test.YtoalomjmmlnclaaPIntervalApplyx1
namespace Go.Proofs.Ytoalomjmmlnclaa.Widens
open Go.RowKit Go.Proofs.Ytoalomjmmlnclaa.PIntervalApply Go.Proofs.YtoalomjmmlnclaaW.PrintWords Go.Proofs.YtoalomjmmlnclaaW.PrintLast Go.Proofs.YtoalomjmmlnclaaW.PrintMore
open Go.Proofs.Ytoalomjmmlnclaa.M Go.Proofs.Ytoalomjmmlnclaa.Ivl
open List renaming setIfInBounds_toArray → zA, set_cons_zero → zB, set_cons_succ → zC
attribute [local go_sem] max2_int min2_int max_two min_two max_three min_three max_four min_four
attribute [local go_sem high] eqA38
set_option linter.unusedVariables false
set_option linter.unusedSimpArgs false


set_option maxHeartbeats 4000000 in
set_option maxRecDepth 100000 in
theorem long (a0 b0 : Int) (ao : Option Addr) (n cap : Nat) (hn : decide (60 < (n : Int)) = true) (w : World) : Calls Try.prog 9 #[.agg #[.int .i32 a0, .int .i32 b0], .slice ao n cap] w fun e w' => e = .returned (.bool true) ∧ Below w.heap.size w w' := by
  have hu38 := Try.underlying38
  go_enter Try.func9, Try.ntmps9
  go_upto_region 1 with (fail)
  have HB := Aside0.mk (Bx.start1 w a0 b0)
  generalize World.alloc w _ = w0 at HB ⊢
  have C := HB.out.cl
  simp only [Cl, and_true] at C
  obtain ⟨_, _, _, _⟩ := C
  go_wp2_with fail
  (with_reducible refine (awake_c _).mono ?_); rintro e wv1 ⟨rfl, hb⟩
  replace HB := Aside0.mk (HB.out.step hb)
  clear hb
  have C := HB.out.cl
  simp only [Cl, and_true] at C
  obtain ⟨_, _, _, _⟩ := C
  go_wp2_with fail
  (with_reducible refine (awake_c _).mono ?_); rintro e wv2 ⟨rfl, hb⟩
  replace HB := Aside0.mk (HB.out.step hb)
  clear hb
  have C := HB.out.cl
  simp only [Cl, and_true] at C
  obtain ⟨_, _, _, _⟩ := C
  go_wp2_with fail
  go_ret
  exact ⟨by first | rfl | (simp; done) | (simp [*]; done), HB.out.below⟩

set_option maxHeartbeats 4000000 in
set_option maxRecDepth 100000 in
theorem main (a0 b0 : Int) (ao : Option Addr) (n cap : Nat) (ia : Aside0 (I32 a0)) (ib : Aside0 (I32 b0)) (hn : decide (60 < (n : Int)) = false) (hn' : n ≤ 60) (w : World) (he : Aside0 (Elems w ao n)) : Calls Try.prog 9 #[.agg #[.int .i32 a0, .int .i32 b0], .slice ao n cap] w fun e w' => e = .returned (.bool true) ∧ Below w.heap.size w w' := by
  have hu38 := Try.underlying38
  go_enter Try.func9, Try.ntmps9
  go_upto_region 1 with (fail)
  have HB := Aside0.mk (Bx.start1 w a0 b0)
  generalize World.alloc w _ = w0 at HB ⊢
  have C := HB.out.cl
  simp only [Cl, and_true] at C
  obtain ⟨_, _, _, _⟩ := C
  go_wp2_with fail
  (with_reducible refine (awake_c _).mono ?_); rintro e wv1 ⟨rfl, hb⟩
  replace HB := Aside0.mk (HB.out.step hb)
  clear hb
  have C := HB.out.cl
  simp only [Cl, and_true] at C
  obtain ⟨_, _, _, _⟩ := C
  go_upto_region 4 with (fail)
  have hlgx_0 := blk_lt (HB.out.bk 0 rfl)
  replace HB := Aside0.mk (show Bx w [(w.heap.size, a0, b0), (wv1.heap.size, a0, b0)] _ from HB.out.box rfl a0 b0)
  generalize World.alloc wv1 _ = wv2 at HB ⊢
  generalize wv1.heap.size = gx at HB hlgx_0 ⊢
  have C := HB.out.cl
  simp only [Cl, and_true] at C
  obtain ⟨_, _, _, _, _, _, _, _⟩ := C
  go_wp2_with fail
  go_loopg [6, 23] n (fun kq v6 v23 w' => ∃ (i ch : Nat) (p q : Int), i + kq = n ∧ v6 = .int .i64 (ch : Int) ∧ v23 = .int .i64 (i : Int) ∧ Aside0 (I32 p ∧ I32 q ∧ ch + pot p q ≤ 3) ∧ Aside0 (Bx w [(w.heap.size, a0, b0), (gx, p, q)] w'))
  case atStart => exact ⟨0, 0, a0, b0, by simp, rfl, rfl, ⟨⟨ia.out, ib.out, by have := pot_le a0 b0; omega⟩⟩, HB⟩
  case round =>
    clear HB
    obtain ⟨i, ch, p, q, hi, rfl, rfl, HI, HB⟩ := hrel
    have hlgx := hlgx_0
    by_cases hk : i < n
    · skip
      obtain ⟨x, c, d, rfl, hc0, hc1, wc, wd⟩ := he.out.at HB.out.below hk
      have ic := Aside0.mk (i32_wf wc)
      have id := Aside0.mk (i32_wf wd)
      clear wc wd
      have hd : decide ((i : Int) < n) = true := decide_eq_true (by omega)
      have hi0 : (0 : Int) ≤ i := by omega
      have hch : ch ≤ 3 := by have := HI.out.2.2; omega
      have C := HB.out.cl
      simp only [Cl, and_true] at C
      obtain ⟨_, _, _, _, _, _, _, _⟩ := C
      go_upto_region 7 with (fail)
      have hlgy_0 := blk_lt (HB.out.bk 0 rfl)
      have hlgy_1 := blk_lt (HB.out.bk 1 rfl)
      replace HB := Aside0.mk (show Bx w [(w.heap.size, a0, b0), (gx, p, q), (wr.heap.size, c, d)] _ from HB.out.box rfl c d)
      generalize World.alloc wr _ = wv3 at HB ⊢
      generalize wr.heap.size = gy at HB hlgy_0 hlgy_1 ⊢
      have C := HB.out.cl
      simp only [Cl, and_true] at C
      obtain ⟨_, _, _, _, _, _, _, _, _, _, _, _⟩ := C
      by_cases e1 : q < p
      · by_cases e2 : d < c
        · skip
          have HE1 : Aside0 (decide (q < p) = true) := ⟨decide_eq_true (by omega)⟩
          have HE2 : Aside0 (decide (d < c) = true) := ⟨decide_eq_true (by omega)⟩
          have HZ : Aside0 (widenv p q c d = (1, 0)) := ⟨by unfold widenv; rw [if_pos (by omega)]; unfold joinv; rw [if_pos (by omega)]⟩
          have HW : Aside0 (within 1 0 p q = true) := ⟨decide_eq_true (by have h1 := HI.out.1; have h2 := HI.out.2.1; have h3 := ic.out; have h4 := id.out; unfold I32 at h1 h2 h3 h4; omega)⟩
          clear e1 e2
          have PZ := Aside0.mk (widen_pot HI.out.1 HI.out.2.1 ic.out id.out HZ.out)
          clear hc0 hc1
          go_wp2_with fail
          (with_reducible refine (widen_c _ _ _ _ _ _ HZ.out _).mono ?_); rintro e wv4 ⟨rfl, hb⟩
          replace HB := Aside0.mk (HB.out.step hb)
          clear hb
          have C := HB.out.cl
          simp only [Cl, and_true] at C
          obtain ⟨_, _, _, _, _, _, _, _, _, _, _, _⟩ := C
          go_upto_region 8 with (fail)
          have hlgz_0 := blk_lt (HB.out.bk 0 rfl)
          have hlgz_1 := blk_lt (HB.out.bk 1 rfl)
          have hlgz_2 := blk_lt (HB.out.bk 2 rfl)
          replace HB := Aside0.mk (show Bx w [(w.heap.size, a0, b0), (gx, p, q), (gy, c, d), (wv4.heap.size, 1, 0)] _ from HB.out.box rfl 1 0)
          generalize World.alloc wv4 _ = wv5 at HB ⊢
          generalize wv4.heap.size = gz at HB hlgz_0 hlgz_1 hlgz_2 ⊢
          have C := HB.out.cl
          simp only [Cl, and_true] at C
          obtain ⟨_, _, _, _, _, _, _, _, _, _, _, _, _, _, _, _⟩ := C
          go_wp2_with fail
          (with_reducible refine (within_c _ _ _ _ _ PZ.out.2.1 _).mono ?_); rintro e wv6 ⟨rfl, hb⟩
          replace HB := Aside0.mk (HB.out.step hb)
          clear hb
          have C := HB.out.cl
          simp only [Cl, and_true] at C
          obtain ⟨_, _, _, _, _, _, _, _, _, _, _, _, _, _, _, _⟩ := C
          go_wp2_with fail
          (with_reducible refine (within_c _ _ _ _ _ PZ.out.2.2.1 _).mono ?_); rintro e wv7 ⟨rfl, hb⟩
          replace HB := Aside0.mk (HB.out.step hb)
          clear hb
          have C := HB.out.cl
          simp only [Cl, and_true] at C
          obtain ⟨_, _, _, _, _, _, _, _, _, _, _, _, _, _, _, _⟩ := C
          go_wp2_with fail
          (with_reducible refine (isE_c _ _ _ HE1.out _).mono ?_); rintro e wv8 ⟨rfl, hb⟩
          replace HB := Aside0.mk (HB.out.step hb)
          clear hb
          have C := HB.out.cl
          simp only [Cl, and_true] at C
          obtain ⟨_, _, _, _, _, _, _, _, _, _, _, _, _, _, _, _⟩ := C
          go_upto_region 18 with (fail)
          replace HB := Aside0.mk (HB.out.drew)
          refine start_ (n := 39) (S := fun w' => w'.cell? ⟨gx, 0, none⟩ = some (.int .i32 p) ∧ w'.cell? ⟨gx, 1, none⟩ = some (.int .i32 q) ∧ w'.cell? ⟨gy, 0, none⟩ = some (.int .i32 c) ∧ w'.cell? ⟨gy, 1, none⟩ = some (.int .i32 d) ∧ w'.cell? ⟨gz, 0, none⟩ = some (.int .i32 1) ∧ w'.cell? ⟨gz, 1, none⟩ = some (.int .i32 0)) (ds := []) #[false, false, false, false, false, false, false, false, false, false, false, false, false, false, false, false, false, false, false, false, false, false, false, false, false, false, false, false, false, false, false, false, false, false, false, false, false, false, false] (by kernel_rfl) rfl rfl ⟨HB.out.c0 1 rfl, HB.out.c1 1 rfl, HB.out.c0 2 rfl, HB.out.c1 2 rfl, HB.out.c0 3 rfl, HB.out.c1 3 rfl⟩ (fun hHeld => ?_)
          generalize wv8.drew = wv9 at HB hHeld ⊢
          refine take_ (i := 0) (N := some 67) (v := ?_) (a' := ?_) (bl 39 1) rfl rfl (by kernel_rfl) (fun _ _ _ h => h) (Or.inl ⟨by rfl, ?_⟩) hHeld ?_ ?_
          rotate_left
          · rintro w' ⟨s0, s1, s2, s3, s4, s5⟩; go_simp; with_reducible rfl
          rotate_left
          · simp only [Act.put, zA, zB, zC, i64_w, i32_w]; rfl
          refine one_ (i := 1) (N := some 68) (bl 39 3) rfl rfl (by kernel_rfl) (by decide) (fun K hK => ?_)
          refine goes_ Try.func32 (by kernel_rfl) rfl #[.agg #[.int .i32 p, .int .i32 q]] (by rfl) rfl rfl (by (try simp only [List.map_toArray, List.map_cons, List.map_nil]); first | done | rfl) ?_
          with_reducible refine (isE_c _ _ _ HE1.out _).mono ?_
          rintro e wv10 ⟨rfl, hb⟩; refine ⟨_, rfl, ?_⟩
          replace HB := Aside0.mk (HB.out.step hb); clear hb
          refine hK.out _ _ ⟨HB.out.c0 1 rfl, HB.out.c1 1 rfl, HB.out.c0 2 rfl, HB.out.c1 2 rfl, HB.out.c0 3 rfl, HB.out.c1 3 rfl⟩ (fun hHeld => ?_)
          clear hK K
          refine norm_ (a' := ?_) ?_ ?_; rotate_left
          · show Act.put _ (some 68) _ = _; simp only [Act.put, zA, zB, zC, i64_w, i32_w]; rfl
          refine pure_ (i := 2) (N := some 69) (v := ?_) (a' := ?_) (bl 39 7) rfl rfl (by kernel_rfl) (fun _ _ _ h => h) (Or.inl ⟨by rfl, ?_⟩) ?_ ?_
          rotate_left
          · intro w'; go_simp; with_reducible rfl
          rotate_left
          · simp only [Act.put, zA, zB, zC, i64_w, i32_w]; rfl
          refine take_ (i := 3) (N := some 70) (v := ?_) (a' := ?_) (bl 39 15) rfl rfl (by kernel_rfl) (fun _ _ _ h => h) (Or.inl ⟨by rfl, ?_⟩) hHeld ?_ ?_
          rotate_left
          · rintro w' ⟨s0, s1, s2, s3, s4, s5⟩; go_simp; with_reducible rfl
          rotate_left
          · simp only [Act.put, zA, zB, zC, i64_w, i32_w]; rfl
          refine one_ (i := 4) (N := some 71) (bl 39 31) rfl rfl (by kernel_rfl) (by decide) (fun K hK => ?_)
          refine goes_ Try.func32 (by kernel_rfl) rfl #[.agg #[.int .i32 c, .int .i32 d]] (by rfl) rfl rfl (by (try simp only [List.map_toArray, List.map_cons, List.map_nil]); first | done | rfl) ?_
          with_reducible refine (isE_c _ _ _ HE2.out _).mono ?_
          rintro e wv11 ⟨rfl, hb⟩; refine ⟨_, rfl, ?_⟩
          replace HB := Aside0.mk (HB.out.step hb); clear hb
          refine hK.out _ _ ⟨HB.out.c0 1 rfl, HB.out.c1 1 rfl, HB.out.c0 2 rfl, HB.out.c1 2 rfl, HB.out.c0 3 rfl, HB.out.c1 3 rfl⟩ (fun hHeld => ?_)
          clear hK K
          refine norm_ (a' := ?_) ?_ ?_; rotate_left
          · show Act.put _ (some 71) _ = _; simp only [Act.put, zA, zB, zC, i64_w, i32_w]; rfl
          refine pure_ (i := 5) (N := some 72) (v := ?_) (a' := ?_) (bl 39 63) rfl rfl (by kernel_rfl) (fun _ _ _ h => h) (Or.inl ⟨by rfl, ?_⟩) ?_ ?_
          rotate_left
          · intro w'; go_simp; with_reducible rfl
          rotate_left
          · simp only [Act.put, zA, zB, zC, i64_w, i32_w]; rfl
          refine pure_ (i := 6) (N := some 73) (v := ?_) (a' := ?_) (bl 39 127) rfl rfl (by kernel_rfl) (fun _ _ _ h => h) (Or.inl ⟨by rfl, ?_⟩) ?_ ?_
          rotate_left
          · intro w'; go_simp; with_reducible rfl
          rotate_left
          · simp only [Act.put, zA, zB, zC, i64_w, i32_w]; rfl
          refine take_ (i := 7) (N := some 74) (v := ?_) (a' := ?_) (bl 39 255) rfl rfl (by kernel_rfl) (fun _ _ _ h => h) (Or.inl ⟨by rfl, ?_⟩) hHeld ?_ ?_
          rotate_left
          · rintro w' ⟨s0, s1, s2, s3, s4, s5⟩; go_simp; with_reducible rfl
          rotate_left
          · simp only [Act.put, zA, zB, zC, i64_w, i32_w]; rfl
          refine one_ (i := 8) (N := some 75) (bl 39 511) rfl rfl (by kernel_rfl) (by decide) (fun K hK => ?_)
          refine goes_ Try.func33 (by kernel_rfl) rfl #[] (by rfl) rfl rfl (by (try simp only [List.map_toArray, List.map_cons, List.map_nil]); first | done | rfl) ?_
          with_reducible refine (empty_c _).mono ?_
          rintro e wv12 ⟨rfl, hb⟩; refine ⟨_, rfl, ?_⟩
          replace HB := Aside0.mk (HB.out.step hb); clear hb
          refine hK.out _ _ ⟨HB.out.c0 1 rfl, HB.out.c1 1 rfl, HB.out.c0 2 rfl, HB.out.c1 2 rfl, HB.out.c0 3 rfl, HB.out.c1 3 rfl⟩ (fun hHeld => ?_)
          clear hK K
          refine norm_ (a' := ?_) ?_ ?_; rotate_left
          · show Act.put _ (some 75) _ = _; simp only [Act.put, zA, zB, zC, i64_w, i32_w]; rfl
          refine pure_ (i := 9) (N := some 76) (v := ?_) (a' := ?_) (bl 39 1023) rfl rfl (by kernel_rfl) (fun _ _ _ h => h) (Or.inl ⟨by rfl, ?_⟩) ?_ ?_
          rotate_left
          · intro w'; go_simp; with_reducible rfl
          rotate_left
          · simp only [Act.put, zA, zB, zC, i64_w, i32_w]; rfl
          refine pure_ (i := 10) (N := some 77) (v := ?_) (a' := ?_) (bl 39 2047) rfl rfl (by kernel_rfl) (fun _ _ _ h => h) (Or.inl ⟨by rfl, ?_⟩) ?_ ?_
          rotate_left
          · intro w'; go_simp; with_reducible rfl
          rotate_left
          · simp only [Act.put, zA, zB, zC, i64_w, i32_w]; rfl
          refine pure_ (i := 11) (N := some 78) (v := ?_) (a' := ?_) (bl 39 4095) rfl rfl (by kernel_rfl) (fun _ _ _ h => h) (Or.inl ⟨by rfl, ?_⟩) ?_ ?_
          rotate_left
          · intro w'; go_simp; with_reducible rfl
          rotate_left
          · simp only [Act.put, zA, zB, zC, i64_w, i32_w]; rfl
          refine take_ (i := 12) (N := some 79) (v := ?_) (a' := ?_) (bl 39 8191) rfl rfl (by kernel_rfl) (fun _ _ _ h => h) (Or.inl ⟨by rfl, ?_⟩) hHeld ?_ ?_
          rotate_left
          · rintro w' ⟨s0, s1, s2, s3, s4, s5⟩; go_simp; with_reducible rfl
          rotate_left
          · simp only [Act.put, zA, zB, zC, i64_w, i32_w]; rfl
          refine one_ (i := 13) (N := some 80) (bl 39 16383) rfl rfl (by kernel_rfl) (by decide) (fun K hK => ?_)
          refine goes_ Try.func32 (by kernel_rfl) rfl #[.agg #[.int .i32 p, .int .i32 q]] (by rfl) rfl rfl (by (try simp only [List.map_toArray, List.map_cons, List.map_nil]); first | done | rfl) ?_
          with_reducible refine (isE_c _ _ _ HE1.out _).mono ?_
          rintro e wv13 ⟨rfl, hb⟩; refine ⟨_, rfl, ?_⟩
          replace HB := Aside0.mk (HB.out.step hb); clear hb
          refine hK.out _ _ ⟨HB.out.c0 1 rfl, HB.out.c1 1 rfl, HB.out.c0 2 rfl, HB.out.c1 2 rfl, HB.out.c0 3 rfl, HB.out.c1 3 rfl⟩ (fun hHeld => ?_)
          clear hK K
          refine norm_ (a' := ?_) ?_ ?_; rotate_left
          · show Act.put _ (some 80) _ = _; simp only [Act.put, zA, zB, zC, i64_w, i32_w]; rfl
          refine pure_ (i := 14) (N := some 81) (v := ?_) (a' := ?_) (bl 39 32767) rfl rfl (by kernel_rfl) (fun _ _ _ h => h) (Or.inl ⟨by rfl, ?_⟩) ?_ ?_
          rotate_left
          · intro w'; go_simp; with_reducible rfl
          rotate_left
          · simp only [Act.put, zA, zB, zC, i64_w, i32_w]; rfl
          refine take_ (i := 15) (N := some 82) (v := ?_) (a' := ?_) (bl 39 65535) rfl rfl (by kernel_rfl) (fun _ _ _ h => h) (Or.inl ⟨by rfl, ?_⟩) hHeld ?_ ?_
          rotate_left
          · rintro w' ⟨s0, s1, s2, s3, s4, s5⟩; go_simp; with_reducible rfl
          rotate_left
          · simp only [Act.put, zA, zB, zC, i64_w, i32_w]; rfl
          refine one_ (i := 16) (N := some 83) (bl 39 131071) rfl rfl (by kernel_rfl) (by decide) (fun K hK => ?_)
          refine goes_ Try.func32 (by kernel_rfl) rfl #[.agg #[.int .i32 c, .int .i32 d]] (by rfl) rfl rfl (by (try simp only [List.map_toArray, List.map_cons, List.map_nil]); first | done | rfl) ?_
          with_reducible refine (isE_c _ _ _ HE2.out _).mono ?_
          rintro e wv14 ⟨rfl, hb⟩; refine ⟨_, rfl, ?_⟩
          replace HB := Aside0.mk (HB.out.step hb); clear hb
          refine hK.out _ _ ⟨HB.out.c0 1 rfl, HB.out.c1 1 rfl, HB.out.c0 2 rfl, HB.out.c1 2 rfl, HB.out.c0 3 rfl, HB.out.c1 3 rfl⟩ (fun hHeld => ?_)
          clear hK K
          refine norm_ (a' := ?_) ?_ ?_; rotate_left
          · show Act.put _ (some 83) _ = _; simp only [Act.put, zA, zB, zC, i64_w, i32_w]; rfl
          refine pure_ (i := 17) (N := some 84) (v := ?_) (a' := ?_) (bl 39 262143) rfl rfl (by kernel_rfl) (fun _ _ _ h => h) (Or.inl ⟨by rfl, ?_⟩) ?_ ?_
          rotate_left
          · intro w'; go_simp; with_reducible rfl
          rotate_left
          · simp only [Act.put, zA, zB, zC, i64_w, i32_w]; rfl
          refine pure_ (i := 18) (N := some 85) (v := ?_) (a' := ?_) (bl 39 524287) rfl rfl (by kernel_rfl) (fun _ _ _ h => h) (Or.inl ⟨by rfl, ?_⟩) ?_ ?_
          rotate_left
          · intro w'; go_simp; with_reducible rfl
          rotate_left
          · simp only [Act.put, zA, zB, zC, i64_w, i32_w]; rfl
          refine pure_ (i := 19) (N := some 86) (v := ?_) (a' := ?_) (bl 39 1048575) rfl rfl (by kernel_rfl) (fun _ _ _ h => h) (Or.inl ⟨by rfl, ?_⟩) ?_ ?_
          rotate_left
          · intro w'; go_simp; with_reducible rfl
          rotate_left
          · simp only [Act.put, zA, zB, zC, i64_w, i32_w]; rfl
          refine pure_ (i := 20) (N := some 87) (v := undef) (a' := ?_) (bl 39 2097151) rfl rfl (by kernel_rfl) (fun _ _ _ h => h) (Or.inr ⟨by rfl, rfl⟩) ?_ ?_
          rotate_left
          · simp only [Act.put, zA, zB, zC, i64_w, i32_w]; rfl
          refine pure_ (i := 21) (N := some 88) (v := undef) (a' := ?_) (bl 39 4194303) rfl rfl (by kernel_rfl) (fun _ _ _ h => h) (Or.inr ⟨by rfl, rfl⟩) ?_ ?_
          rotate_left
          · simp only [Act.put, zA, zB, zC, i64_w, i32_w]; rfl
          refine pure_ (i := 22) (N := some 89) (v := undef) (a' := ?_) (bl 39 8388607) rfl rfl (by kernel_rfl) (fun _ _ _ h => h) (Or.inr ⟨by rfl, rfl⟩) ?_ ?_
          rotate_left
          · simp only [Act.put, zA, zB, zC, i64_w, i32_w]; rfl
          refine pure_ (i := 23) (N := some 90) (v := ?_) (a' := ?_) (bl 39 16777215) rfl rfl (by kernel_rfl) (fun _ _ _ h => h) (Or.inl ⟨by rfl, ?_⟩) ?_ ?_
          rotate_left
          · intro w'; go_simp; with_reducible rfl
          rotate_left
          · simp only [Act.put, zA, zB, zC, i64_w, i32_w]; rfl
          refine pure_ (i := 24) (N := some 91) (v := ?_) (a' := ?_) (bl 39 33554431) rfl rfl (by kernel_rfl) (fun _ _ _ h => h) (Or.inl ⟨by rfl, ?_⟩) ?_ ?_
          rotate_left
          · intro w'; go_simp; with_reducible rfl
          rotate_left
          · simp only [Act.put, zA, zB, zC, i64_w, i32_w]; rfl
          refine pure_ (i := 25) (N := some 92) (v := ?_) (a' := ?_) (bl 39 67108863) rfl rfl (by kernel_rfl) (fun _ _ _ h => h) (Or.inl ⟨by rfl, ?_⟩) ?_ ?_
          rotate_left
          · intro w'; go_simp; with_reducible rfl
          rotate_left
          · simp only [Act.put, zA, zB, zC, i64_w, i32_w]; rfl
          refine take_ (i := 26) (N := some 93) (v := ?_) (a' := ?_) (bl 39 134217727) rfl rfl (by kernel_rfl) (fun _ _ _ h => h) (Or.inl ⟨by rfl, ?_⟩) hHeld ?_ ?_
          rotate_left
          · rintro w' ⟨s0, s1, s2, s3, s4, s5⟩; go_simp; with_reducible rfl
          rotate_left
          · simp only [Act.put, zA, zB, zC, i64_w, i32_w]; rfl
          refine one_ (i := 27) (N := some 94) (bl 39 268435455) rfl rfl (by kernel_rfl) (by decide) (fun K hK => ?_)
          refine goes_ Try.func32 (by kernel_rfl) rfl #[.agg #[.int .i32 c, .int .i32 d]] (by rfl) rfl rfl (by (try simp only [List.map_toArray, List.map_cons, List.map_nil]); first | done | rfl) ?_
          with_reducible refine (isE_c _ _ _ HE2.out _).mono ?_
          rintro e wv15 ⟨rfl, hb⟩; refine ⟨_, rfl, ?_⟩
          replace HB := Aside0.mk (HB.out.step hb); clear hb
          refine hK.out _ _ ⟨HB.out.c0 1 rfl, HB.out.c1 1 rfl, HB.out.c0 2 rfl, HB.out.c1 2 rfl, HB.out.c0 3 rfl, HB.out.c1 3 rfl⟩ (fun hHeld => ?_)
          clear hK K
          refine norm_ (a' := ?_) ?_ ?_; rotate_left
          · show Act.put _ (some 94) _ = _; simp only [Act.put, zA, zB, zC, i64_w, i32_w]; rfl
          refine pure_ (i := 28) (N := some 95) (v := ?_) (a' := ?_) (bl 39 536870911) rfl rfl (by kernel_rfl) (fun _ _ _ h => h) (Or.inl ⟨by rfl, ?_⟩) ?_ ?_
          rotate_left
          · intro w'; go_simp; with_reducible rfl
          rotate_left
          · simp only [Act.put, zA, zB, zC, i64_w, i32_w]; rfl
          refine take_ (i := 29) (N := some 96) (v := ?_) (a' := ?_) (bl 39 1073741823) rfl rfl (by kernel_rfl) (fun _ _ _ h => h) (Or.inl ⟨by rfl, ?_⟩) hHeld ?_ ?_
          rotate_left
          · rintro w' ⟨s0, s1, s2, s3, s4, s5⟩; go_simp; with_reducible rfl
          rotate_left
          · simp only [Act.put, zA, zB, zC, i64_w, i32_w]; rfl
          refine one_ (i := 30) (N := some 97) (bl 39 2147483647) rfl rfl (by kernel_rfl) (by decide) (fun K hK => ?_)
          refine goes_ Try.func32 (by kernel_rfl) rfl #[.agg #[.int .i32 p, .int .i32 q]] (by rfl) rfl rfl (by (try simp only [List.map_toArray, List.map_cons, List.map_nil]); first | done | rfl) ?_
          with_reducible refine (isE_c _ _ _ HE1.out _).mono ?_
          rintro e wv16 ⟨rfl, hb⟩; refine ⟨_, rfl, ?_⟩
          replace HB := Aside0.mk (HB.out.step hb); clear hb
          refine hK.out _ _ ⟨HB.out.c0 1 rfl, HB.out.c1 1 rfl, HB.out.c0 2 rfl, HB.out.c1 2 rfl, HB.out.c0 3 rfl, HB.out.c1 3 rfl⟩ (fun hHeld => ?_)
          clear hK K
          refine norm_ (a' := ?_) ?_ ?_; rotate_left
          · show Act.put _ (some 97) _ = _; simp only [Act.put, zA, zB, zC, i64_w, i32_w]; rfl
          refine pure_ (i := 31) (N := some 98) (v := ?_) (a' := ?_) (bl 39 4294967295) rfl rfl (by kernel_rfl) (fun _ _ _ h => h) (Or.inl ⟨by rfl, ?_⟩) ?_ ?_
          rotate_left
          · intro w'; go_simp; with_reducible rfl
          rotate_left
          · simp only [Act.put, zA, zB, zC, i64_w, i32_w]; rfl
          refine pure_ (i := 32) (N := some 99) (v := ?_) (a' := ?_) (bl 39 8589934591) rfl rfl (by kernel_rfl) (fun _ _ _ h => h) (Or.inl ⟨by rfl, ?_⟩) ?_ ?_
          rotate_left
          · intro w'; go_simp; with_reducible rfl
          rotate_left
          · simp only [Act.put, zA, zB, zC, i64_w, i32_w]; rfl
          refine pure_ (i := 33) (N := some 100) (v := ?_) (a' := ?_) (bl 39 17179869183) rfl rfl (by kernel_rfl) (fun _ _ _ h => h) (Or.inl ⟨by rfl, ?_⟩) ?_ ?_
          rotate_left
          · intro w'; go_simp; with_reducible rfl
          rotate_left
          · simp only [Act.put, zA, zB, zC, i64_w, i32_w]; rfl
          refine pure_ (i := 34) (N := some 101) (v := undef) (a' := ?_) (bl 39 34359738367) rfl rfl (by kernel_rfl) (fun _ _ _ h => h) (Or.inr ⟨by rfl, rfl⟩) ?_ ?_
          rotate_left
          · simp only [Act.put, zA, zB, zC, i64_w, i32_w]; rfl
          refine pure_ (i := 35) (N := some 102) (v := undef) (a' := ?_) (bl 39 68719476735) rfl rfl (by kernel_rfl) (fun _ _ _ h => h) (Or.inr ⟨by rfl, rfl⟩) ?_ ?_
          rotate_left
          · simp only [Act.put, zA, zB, zC, i64_w, i32_w]; rfl
          refine pure_ (i := 36) (N := some 103) (v := undef) (a' := ?_) (bl 39 137438953471) rfl rfl (by kernel_rfl) (fun _ _ _ h => h) (Or.inr ⟨by rfl, rfl⟩) ?_ ?_
          rotate_left
          · simp only [Act.put, zA, zB, zC, i64_w, i32_w]; rfl
          refine pure_ (i := 37) (N := some 104) (v := ?_) (a' := ?_) (bl 39 274877906943) rfl rfl (by kernel_rfl) (fun _ _ _ h => h) (Or.inl ⟨by rfl, ?_⟩) ?_ ?_
          rotate_left
          · intro w'; go_simp; with_reducible rfl
          rotate_left
          · simp only [Act.put, zA, zB, zC, i64_w, i32_w]; rfl
          refine pure_ (i := 38) (N := some 105) (v := ?_) (a' := ?_) (bl 39 549755813887) rfl rfl (by kernel_rfl) (fun _ _ _ h => h) (Or.inl ⟨by rfl, ?_⟩) ?_ ?_
          rotate_left
          · intro w'; go_simp; with_reducible rfl
          rotate_left
          · simp only [Act.put, zA, zB, zC, i64_w, i32_w]; rfl
          refine done_ (by kernel_rfl) ?_
          have C := HB.out.cl
          simp only [Cl, and_true] at C
          obtain ⟨_, _, _, _, _, _, _, _, _, _, _, _, _, _, _, _⟩ := C
          go_wp2_with fail
          (with_reducible refine (within_c _ _ _ _ _ HW.out _).mono ?_); rintro e wv17 ⟨rfl, hb⟩
          replace HB := Aside0.mk (HB.out.step hb)
          clear hb
          have C := HB.out.cl
          simp only [Cl, and_true] at C
          obtain ⟨_, _, _, _, _, _, _, _, _, _, _, _, _, _, _, _⟩ := C
          go_upto_region 23 with (fail)
          replace HB := Aside0.mk (show Bx w [(w.heap.size, a0, b0), (gx, 1, 0), (gy, c, d), (gz, 1, 0)] _ from HB.out.put 1 rfl (by intro m g' a' b' hm hne; rcases m with _ | _ | _ | _ | m <;> simp at hm <;> omega) (by omega) 1 0)
          generalize World.setCell (World.setCell _ _ _) _ _ = wv18 at HB ⊢
          replace HB := Aside0.mk (show Bx w [(w.heap.size, a0, b0), (gx, 1, 0)] _ from HB.out.take 2)
          go_wp2_with fail
          go_roundg (n - 1 - i)
          case measure => omega
          case rel => exact ⟨i + 1, ch, 1, 0, by omega, by first | rfl | (simp; done), by simp, ⟨⟨PZ.out.2.2.2.1, PZ.out.2.2.2.2, by have h1 := PZ.out.1; rw [HW.out] at h1; simp at h1; have h2 := HI.out.2.2; omega⟩⟩, HB⟩
        · skip
          have HE1 : Aside0 (decide (q < p) = true) := ⟨decide_eq_true (by omega)⟩
          have HE2 : Aside0 (decide (d < c) = false) := ⟨decide_eq_false (by omega)⟩
          have HZ : Aside0 (widenv p q c d = (c, d)) := ⟨by unfold widenv; rw [if_pos (by omega)]; unfold joinv; rw [if_neg (by omega), if_pos (by omega)]⟩
          have HW : Aside0 (within c d p q = false) := ⟨decide_eq_false (by have h1 := HI.out.1; have h2 := HI.out.2.1; have h3 := ic.out; have h4 := id.out; unfold I32 at h1 h2 h3 h4; omega)⟩
          clear e1 e2
          have PZ := Aside0.mk (widen_pot HI.out.1 HI.out.2.1 ic.out id.out HZ.out)
          clear hc0 hc1
          go_wp2_with fail
          (with_reducible refine (widen_c _ _ _ _ _ _ HZ.out _).mono ?_); rintro e wv4 ⟨rfl, hb⟩
          replace HB := Aside0.mk (HB.out.step hb)
          clear hb
          have C := HB.out.cl
          simp only [Cl, and_true] at C
          obtain ⟨_, _, _, _, _, _, _, _, _, _, _, _⟩ := C
          go_upto_region 8 with (fail)
          have hlgz_0 := blk_lt (HB.out.bk 0 rfl)
          have hlgz_1 := blk_lt (HB.out.bk 1 rfl)
          have hlgz_2 := blk_lt (HB.out.bk 2 rfl)
          replace HB := Aside0.mk (show Bx w [(w.heap.size, a0, b0), (gx, p, q), (gy, c, d), (wv4.heap.size, c, d)] _ from HB.out.box rfl c d)
          generalize World.alloc wv4 _ = wv5 at HB ⊢
          generalize wv4.heap.size = gz at HB hlgz_0 hlgz_1 hlgz_2 ⊢
          have C := HB.out.cl
          simp only [Cl, and_true] at C
          obtain ⟨_, _, _, _, _, _, _, _, _, _, _, _, _, _, _, _⟩ := C
          go_wp2_with fail
          (with_reducible refine (within_c _ _ _ _ _ PZ.out.2.1 _).mono ?_); rintro e wv6 ⟨rfl, hb⟩
          replace HB := Aside0.mk (HB.out.step hb)
          clear hb
          have C := HB.out.cl
          simp only [Cl, and_true] at C
          obtain ⟨_, _, _, _, _, _, _, _, _, _, _, _, _, _, _, _⟩ := C
          go_wp2_with fail
          (with_reducible refine (within_c _ _ _ _ _ PZ.out.2.2.1 _).mono ?_); rintro e wv7 ⟨rfl, hb⟩
          replace HB := Aside0.mk (HB.out.step hb)
          clear hb
          have C := HB.out.cl
          simp only [Cl, and_true] at C
          obtain ⟨_, _, _, _, _, _, _, _, _, _, _, _, _, _, _, _⟩ := C
          go_wp2_with fail
          (with_reducible refine (isE_c _ _ _ HE1.out _).mono ?_); rintro e wv8 ⟨rfl, hb⟩
          replace HB := Aside0.mk (HB.out.step hb)
          clear hb
          have C := HB.out.cl
          simp only [Cl, and_true] at C
          obtain ⟨_, _, _, _, _, _, _, _, _, _, _, _, _, _, _, _⟩ := C
          go_upto_region 18 with (fail)
          replace HB := Aside0.mk (HB.out.drew)
          refine start_ (n := 39) (S := fun w' => w'.cell? ⟨gx, 0, none⟩ = some (.int .i32 p) ∧ w'.cell? ⟨gx, 1, none⟩ = some (.int .i32 q) ∧ w'.cell? ⟨gy, 0, none⟩ = some (.int .i32 c) ∧ w'.cell? ⟨gy, 1, none⟩ = some (.int .i32 d) ∧ w'.cell? ⟨gz, 0, none⟩ = some (.int .i32 c) ∧ w'.cell? ⟨gz, 1, none⟩ = some (.int .i32 d)) (ds := []) #[false, false, false, false, false, false, false, false, false, false, false, false, false, false, false, false, false, false, false, false, false, false, false, false, false, false, false, false, false, false, false, false, false, false, false, false, false, false, false] (by kernel_rfl) rfl rfl ⟨HB.out.c0 1 rfl, HB.out.c1 1 rfl, HB.out.c0 2 rfl, HB.out.c1 2 rfl, HB.out.c0 3 rfl, HB.out.c1 3 rfl⟩ (fun hHeld => ?_)
          generalize wv8.drew = wv9 at HB hHeld ⊢
          refine take_ (i := 0) (N := some 67) (v := ?_) (a' := ?_) (bl 39 1) rfl rfl (by kernel_rfl) (fun _ _ _ h => h) (Or.inl ⟨by rfl, ?_⟩) hHeld ?_ ?_
          rotate_left
          · rintro w' ⟨s0, s1, s2, s3, s4, s5⟩; go_simp; with_reducible rfl
          rotate_left
          · simp only [Act.put, zA, zB, zC, i64_w, i32_w]; rfl
          refine one_ (i := 1) (N := some 68) (bl 39 3) rfl rfl (by kernel_rfl) (by decide) (fun K hK => ?_)
          refine goes_ Try.func32 (by kernel_rfl) rfl #[.agg #[.int .i32 p, .int .i32 q]] (by rfl) rfl rfl (by (try simp only [List.map_toArray, List.map_cons, List.map_nil]); first | done | rfl) ?_
          with_reducible refine (isE_c _ _ _ HE1.out _).mono ?_
          rintro e wv10 ⟨rfl, hb⟩; refine ⟨_, rfl, ?_⟩
          replace HB := Aside0.mk (HB.out.step hb); clear hb
          refine hK.out _ _ ⟨HB.out.c0 1 rfl, HB.out.c1 1 rfl, HB.out.c0 2 rfl, HB.out.c1 2 rfl, HB.out.c0 3 rfl, HB.out.c1 3 rfl⟩ (fun hHeld => ?_)
          clear hK K
          refine norm_ (a' := ?_) ?_ ?_; rotate_left
          · show Act.put _ (some 68) _ = _; simp only [Act.put, zA, zB, zC, i64_w, i32_w]; rfl
          refine pure_ (i := 2) (N := some 69) (v := ?_) (a' := ?_) (bl 39 7) rfl rfl (by kernel_rfl) (fun _ _ _ h => h) (Or.inl ⟨by rfl, ?_⟩) ?_ ?_
          rotate_left
          · intro w'; go_simp; with_reducible rfl
          rotate_left
          · simp only [Act.put, zA, zB, zC, i64_w, i32_w]; rfl
          refine take_ (i := 3) (N := some 70) (v := ?_) (a' := ?_) (bl 39 15) rfl rfl (by kernel_rfl) (fun _ _ _ h => h) (Or.inl ⟨by rfl, ?_⟩) hHeld ?_ ?_
          rotate_left
          · rintro w' ⟨s0, s1, s2, s3, s4, s5⟩; go_simp; with_reducible rfl
          rotate_left
          · simp only [Act.put, zA, zB, zC, i64_w, i32_w]; rfl
          refine one_ (i := 4) (N := some 71) (bl 39 31) rfl rfl (by kernel_rfl) (by decide) (fun K hK => ?_)
          refine goes_ Try.func32 (by kernel_rfl) rfl #[.agg #[.int .i32 c, .int .i32 d]] (by rfl) rfl rfl (by (try simp only [List.map_toArray, List.map_cons, List.map_nil]); first | done | rfl) ?_
          with_reducible refine (isE_c _ _ _ HE2.out _).mono ?_
          rintro e wv11 ⟨rfl, hb⟩; refine ⟨_, rfl, ?_⟩
          replace HB := Aside0.mk (HB.out.step hb); clear hb
          refine hK.out _ _ ⟨HB.out.c0 1 rfl, HB.out.c1 1 rfl, HB.out.c0 2 rfl, HB.out.c1 2 rfl, HB.out.c0 3 rfl, HB.out.c1 3 rfl⟩ (fun hHeld => ?_)
          clear hK K
          refine norm_ (a' := ?_) ?_ ?_; rotate_left
          · show Act.put _ (some 71) _ = _; simp only [Act.put, zA, zB, zC, i64_w, i32_w]; rfl
          refine pure_ (i := 5) (N := some 72) (v := ?_) (a' := ?_) (bl 39 63) rfl rfl (by kernel_rfl) (fun _ _ _ h => h) (Or.inl ⟨by rfl, ?_⟩) ?_ ?_
          rotate_left
          · intro w'; go_simp; with_reducible rfl
          rotate_left
          · simp only [Act.put, zA, zB, zC, i64_w, i32_w]; rfl
          refine pure_ (i := 6) (N := some 73) (v := ?_) (a' := ?_) (bl 39 127) rfl rfl (by kernel_rfl) (fun _ _ _ h => h) (Or.inl ⟨by rfl, ?_⟩) ?_ ?_
          rotate_left
          · intro w'; go_simp; with_reducible rfl
          rotate_left
          · simp only [Act.put, zA, zB, zC, i64_w, i32_w]; rfl
          refine pure_ (i := 7) (N := some 74) (v := undef) (a' := ?_) (bl 39 255) rfl rfl (by kernel_rfl) (fun _ _ _ h => h) (Or.inr ⟨by rfl, rfl⟩) ?_ ?_
          rotate_left
          · simp only [Act.put, zA, zB, zC, i64_w, i32_w]; rfl
          refine pure_ (i := 8) (N := some 75) (v := undef) (a' := ?_) (bl 39 511) rfl rfl (by kernel_rfl) (fun _ _ _ h => h) (Or.inr ⟨by rfl, rfl⟩) ?_ ?_
          rotate_left
          · simp only [Act.put, zA, zB, zC, i64_w, i32_w]; rfl
          refine pure_ (i := 9) (N := some 76) (v := undef) (a' := ?_) (bl 39 1023) rfl rfl (by kernel_rfl) (fun _ _ _ h => h) (Or.inr ⟨by rfl, rfl⟩) ?_ ?_
          rotate_left
          · simp only [Act.put, zA, zB, zC, i64_w, i32_w]; rfl
          refine pure_ (i := 10) (N := some 77) (v := ?_) (a' := ?_) (bl 39 2047) rfl rfl (by kernel_rfl) (fun _ _ _ h => h) (Or.inl ⟨by rfl, ?_⟩) ?_ ?_
          rotate_left
          · intro w'; go_simp; with_reducible rfl
          rotate_left
          · simp only [Act.put, zA, zB, zC, i64_w, i32_w]; rfl
          refine pure_ (i := 11) (N := some 78) (v := ?_) (a' := ?_) (bl 39 4095) rfl rfl (by kernel_rfl) (fun _ _ _ h => h) (Or.inl ⟨by rfl, ?_⟩) ?_ ?_
          rotate_left
          · intro w'; go_simp; with_reducible rfl
          rotate_left
          · simp only [Act.put, zA, zB, zC, i64_w, i32_w]; rfl
          refine take_ (i := 12) (N := some 79) (v := ?_) (a' := ?_) (bl 39 8191) rfl rfl (by kernel_rfl) (fun _ _ _ h => h) (Or.inl ⟨by rfl, ?_⟩) hHeld ?_ ?_
          rotate_left
          · rintro w' ⟨s0, s1, s2, s3, s4, s5⟩; go_simp; with_reducible rfl
          rotate_left
          · simp only [Act.put, zA, zB, zC, i64_w, i32_w]; rfl
          refine one_ (i := 13) (N := some 80) (bl 39 16383) rfl rfl (by kernel_rfl) (by decide) (fun K hK => ?_)
          refine goes_ Try.func32 (by kernel_rfl) rfl #[.agg #[.int .i32 p, .int .i32 q]] (by rfl) rfl rfl (by (try simp only [List.map_toArray, List.map_cons, List.map_nil]); first | done | rfl) ?_
          with_reducible refine (isE_c _ _ _ HE1.out _).mono ?_
          rintro e wv12 ⟨rfl, hb⟩; refine ⟨_, rfl, ?_⟩
          replace HB := Aside0.mk (HB.out.step hb); clear hb
          refine hK.out _ _ ⟨HB.out.c0 1 rfl, HB.out.c1 1 rfl, HB.out.c0 2 rfl, HB.out.c1 2 rfl, HB.out.c0 3 rfl, HB.out.c1 3 rfl⟩ (fun hHeld => ?_)
          clear hK K
          refine norm_ (a' := ?_) ?_ ?_; rotate_left
          · show Act.put _ (some 80) _ = _; simp only [Act.put, zA, zB, zC, i64_w, i32_w]; rfl
          refine pure_ (i := 14) (N := some 81) (v := ?_) (a' := ?_) (bl 39 32767) rfl rfl (by kernel_rfl) (fun _ _ _ h => h) (Or.inl ⟨by rfl, ?_⟩) ?_ ?_
          rotate_left
          · intro w'; go_simp; with_reducible rfl
          rotate_left
          · simp only [Act.put, zA, zB, zC, i64_w, i32_w]; rfl
          refine take_ (i := 15) (N := some 82) (v := ?_) (a' := ?_) (bl 39 65535) rfl rfl (by kernel_rfl) (fun _ _ _ h => h) (Or.inl ⟨by rfl, ?_⟩) hHeld ?_ ?_
          rotate_left
          · rintro w' ⟨s0, s1, s2, s3, s4, s5⟩; go_simp; with_reducible rfl
          rotate_left
          · simp only [Act.put, zA, zB, zC, i64_w, i32_w]; rfl
          refine one_ (i := 16) (N := some 83) (bl 39 131071) rfl rfl (by kernel_rfl) (by decide) (fun K hK => ?_)
          refine goes_ Try.func32 (by kernel_rfl) rfl #[.agg #[.int .i32 c, .int .i32 d]] (by rfl) rfl rfl (by (try simp only [List.map_toArray, List.map_cons, List.map_nil]); first | done | rfl) ?_
          with_reducible refine (isE_c _ _ _ HE2.out _).mono ?_
          rintro e wv13 ⟨rfl, hb⟩; refine ⟨_, rfl, ?_⟩
          replace HB := Aside0.mk (HB.out.step hb); clear hb
          refine hK.out _ _ ⟨HB.out.c0 1 rfl, HB.out.c1 1 rfl, HB.out.c0 2 rfl, HB.out.c1 2 rfl, HB.out.c0 3 rfl, HB.out.c1 3 rfl⟩ (fun hHeld => ?_)
          clear hK K
          refine norm_ (a' := ?_) ?_ ?_; rotate_left
          · show Act.put _ (some 83) _ = _; simp only [Act.put, zA, zB, zC, i64_w, i32_w]; rfl
          refine pure_ (i := 17) (N := some 84) (v := ?_) (a' := ?_) (bl 39 262143) rfl rfl (by kernel_rfl) (fun _ _ _ h => h) (Or.inl ⟨by rfl, ?_⟩) ?_ ?_
          rotate_left
          · intro w'; go_simp; with_reducible rfl
          rotate_left
          · simp only [Act.put, zA, zB, zC, i64_w, i32_w]; rfl
          refine pure_ (i := 18) (N := some 85) (v := ?_) (a' := ?_) (bl 39 524287) rfl rfl (by kernel_rfl) (fun _ _ _ h => h) (Or.inl ⟨by rfl, ?_⟩) ?_ ?_
          rotate_left
          · intro w'; go_simp; with_reducible rfl
          rotate_left
          · simp only [Act.put, zA, zB, zC, i64_w, i32_w]; rfl
          refine pure_ (i := 19) (N := some 86) (v := ?_) (a' := ?_) (bl 39 1048575) rfl rfl (by kernel_rfl) (fun _ _ _ h => h) (Or.inl ⟨by rfl, ?_⟩) ?_ ?_
          rotate_left
          · intro w'; go_simp; with_reducible rfl
          rotate_left
          · simp only [Act.put, zA, zB, zC, i64_w, i32_w]; rfl
          refine take_ (i := 20) (N := some 87) (v := ?_) (a' := ?_) (bl 39 2097151) rfl rfl (by kernel_rfl) (fun _ _ _ h => h) (Or.inl ⟨by rfl, ?_⟩) hHeld ?_ ?_
          rotate_left
          · rintro w' ⟨s0, s1, s2, s3, s4, s5⟩; go_simp; with_reducible rfl
          rotate_left
          · simp only [Act.put, zA, zB, zC, i64_w, i32_w]; rfl
          refine take_ (i := 21) (N := some 88) (v := ?_) (a' := ?_) (bl 39 4194303) rfl rfl (by kernel_rfl) (fun _ _ _ h => h) (Or.inl ⟨by rfl, ?_⟩) hHeld ?_ ?_
          rotate_left
          · rintro w' ⟨s0, s1, s2, s3, s4, s5⟩; go_simp; with_reducible rfl
          rotate_left
          · simp only [Act.put, zA, zB, zC, i64_w, i32_w]; rfl
          refine pure_ (i := 22) (N := some 89) (v := ?_) (a' := ?_) (bl 39 8388607) rfl rfl (by kernel_rfl) (fun _ _ _ h => h) (Or.inl ⟨by rfl, ?_⟩) ?_ ?_
          rotate_left
          · intro w'; go_simp; with_reducible rfl
          rotate_left
          · simp only [Act.put, zA, zB, zC, i64_w, i32_w]; rfl
          refine pure_ (i := 23) (N := some 90) (v := ?_) (a' := ?_) (bl 39 16777215) rfl rfl (by kernel_rfl) (fun _ _ _ h => h) (Or.inl ⟨by rfl, ?_⟩) ?_ ?_
          rotate_left
          · intro w'; go_simp; with_reducible rfl
          rotate_left
          · simp only [Act.put, zA, zB, zC, i64_w, i32_w]; rfl
          refine pure_ (i := 24) (N := some 91) (v := ?_) (a' := ?_) (bl 39 33554431) rfl rfl (by kernel_rfl) (fun _ _ _ h => h) (Or.inl ⟨by rfl, ?_⟩) ?_ ?_
          rotate_left
          · intro w'; go_simp; with_reducible rfl
          rotate_left
          · simp only [Act.put, zA, zB, zC, i64_w, i32_w]; rfl
          refine pure_ (i := 25) (N := some 92) (v := ?_) (a' := ?_) (bl 39 67108863) rfl rfl (by kernel_rfl) (fun _ _ _ h => h) (Or.inl ⟨by rfl, ?_⟩) ?_ ?_
          rotate_left
          · intro w'; go_simp; with_reducible rfl
          rotate_left
          · simp only [Act.put, zA, zB, zC, i64_w, i32_w]; rfl
          refine take_ (i := 26) (N := some 93) (v := ?_) (a' := ?_) (bl 39 134217727) rfl rfl (by kernel_rfl) (fun _ _ _ h => h) (Or.inl ⟨by rfl, ?_⟩) hHeld ?_ ?_
          rotate_left
          · rintro w' ⟨s0, s1, s2, s3, s4, s5⟩; go_simp; with_reducible rfl
          rotate_left
          · simp only [Act.put, zA, zB, zC, i64_w, i32_w]; rfl
          refine one_ (i := 27) (N := some 94) (bl 39 268435455) rfl rfl (by kernel_rfl) (by decide) (fun K hK => ?_)
          refine goes_ Try.func32 (by kernel_rfl) rfl #[.agg #[.int .i32 c, .int .i32 d]] (by rfl) rfl rfl (by (try simp only [List.map_toArray, List.map_cons, List.map_nil]); first | done | rfl) ?_
          with_reducible refine (isE_c _ _ _ HE2.out _).mono ?_
          rintro e wv14 ⟨rfl, hb⟩; refine ⟨_, rfl, ?_⟩
          replace HB := Aside0.mk (HB.out.step hb); clear hb
          refine hK.out _ _ ⟨HB.out.c0 1 rfl, HB.out.c1 1 rfl, HB.out.c0 2 rfl, HB.out.c1 2 rfl, HB.out.c0 3 rfl, HB.out.c1 3 rfl⟩ (fun hHeld => ?_)
          clear hK K
          refine norm_ (a' := ?_) ?_ ?_; rotate_left
          · show Act.put _ (some 94) _ = _; simp only [Act.put, zA, zB, zC, i64_w, i32_w]; rfl
          refine pure_ (i := 28) (N := some 95) (v := ?_) (a' := ?_) (bl 39 536870911) rfl rfl (by kernel_rfl) (fun _ _ _ h => h) (Or.inl ⟨by rfl, ?_⟩) ?_ ?_
          rotate_left
          · intro w'; go_simp; with_reducible rfl
          rotate_left
          · simp only [Act.put, zA, zB, zC, i64_w, i32_w]; rfl
          refine pure_ (i := 29) (N := some 96) (v := undef) (a' := ?_) (bl 39 1073741823) rfl rfl (by kernel_rfl) (fun _ _ _ h => h) (Or.inr ⟨by rfl, rfl⟩) ?_ ?_
          rotate_left
          · simp only [Act.put, zA, zB, zC, i64_w, i32_w]; rfl
          refine pure_ (i := 30) (N := some 97) (v := undef) (a' := ?_) (bl 39 2147483647) rfl rfl (by kernel_rfl) (fun _ _ _ h => h) (Or.inr ⟨by rfl, rfl⟩) ?_ ?_
          rotate_left
          · simp only [Act.put, zA, zB, zC, i64_w, i32_w]; rfl
          refine pure_ (i := 31) (N := some 98) (v := undef) (a' := ?_) (bl 39 4294967295) rfl rfl (by kernel_rfl) (fun _ _ _ h => h) (Or.inr ⟨by rfl, rfl⟩) ?_ ?_
          rotate_left
          · simp only [Act.put, zA, zB, zC, i64_w, i32_w]; rfl
          refine pure_ (i := 32) (N := some 99) (v := ?_) (a' := ?_) (bl 39 8589934591) rfl rfl (by kernel_rfl) (fun _ _ _ h => h) (Or.inl ⟨by rfl, ?_⟩) ?_ ?_
          rotate_left
          · intro w'; go_simp; with_reducible rfl
          rotate_left
          · simp only [Act.put, zA, zB, zC, i64_w, i32_w]; rfl
          refine pure_ (i := 33) (N := some 100) (v := ?_) (a' := ?_) (bl 39 17179869183) rfl rfl (by kernel_rfl) (fun _ _ _ h => h) (Or.inl ⟨by rfl, ?_⟩) ?_ ?_
          rotate_left
          · intro w'; go_simp; with_reducible rfl
          rotate_left
          · simp only [Act.put, zA, zB, zC, i64_w, i32_w]; rfl
          refine pure_ (i := 34) (N := some 101) (v := undef) (a' := ?_) (bl 39 34359738367) rfl rfl (by kernel_rfl) (fun _ _ _ h => h) (Or.inr ⟨by rfl, rfl⟩) ?_ ?_
          rotate_left
          · simp only [Act.put, zA, zB, zC, i64_w, i32_w]; rfl
          refine pure_ (i := 35) (N := some 102) (v := undef) (a' := ?_) (bl 39 68719476735) rfl rfl (by kernel_rfl) (fun _ _ _ h => h) (Or.inr ⟨by rfl, rfl⟩) ?_ ?_
          rotate_left
          · simp only [Act.put, zA, zB, zC, i64_w, i32_w]; rfl
          refine pure_ (i := 36) (N := some 103) (v := undef) (a' := ?_) (bl 39 137438953471) rfl rfl (by kernel_rfl) (fun _ _ _ h => h) (Or.inr ⟨by rfl, rfl⟩) ?_ ?_
          rotate_left
          · simp only [Act.put, zA, zB, zC, i64_w, i32_w]; rfl
          refine pure_ (i := 37) (N := some 104) (v := ?_) (a' := ?_) (bl 39 274877906943) rfl rfl (by kernel_rfl) (fun _ _ _ h => h) (Or.inl ⟨by rfl, ?_⟩) ?_ ?_
          rotate_left
          · intro w'; go_simp; with_reducible rfl
          rotate_left
          · simp only [Act.put, zA, zB, zC, i64_w, i32_w]; rfl
          refine pure_ (i := 38) (N := some 105) (v := ?_) (a' := ?_) (bl 39 549755813887) rfl rfl (by kernel_rfl) (fun _ _ _ h => h) (Or.inl ⟨by rfl, ?_⟩) ?_ ?_
          rotate_left
          · intro w'; go_simp; with_reducible rfl
          rotate_left
          · simp only [Act.put, zA, zB, zC, i64_w, i32_w]; rfl
          refine done_ (by kernel_rfl) ?_
          have C := HB.out.cl
          simp only [Cl, and_true] at C
          obtain ⟨_, _, _, _, _, _, _, _, _, _, _, _, _, _, _, _⟩ := C
          go_wp2_with fail
          (with_reducible refine (within_c _ _ _ _ _ HW.out _).mono ?_); rintro e wv15 ⟨rfl, hb⟩
          replace HB := Aside0.mk (HB.out.step hb)
          clear hb
          have C := HB.out.cl
          simp only [Cl, and_true] at C
          obtain ⟨_, _, _, _, _, _, _, _, _, _, _, _, _, _, _, _⟩ := C
          go_upto_region 23 with (fail)
          replace HB := Aside0.mk (show Bx w [(w.heap.size, a0, b0), (gx, c, d), (gy, c, d), (gz, c, d)] _ from HB.out.put 1 rfl (by intro m g' a' b' hm hne; rcases m with _ | _ | _ | _ | m <;> simp at hm <;> omega) (by omega) c d)
          generalize World.setCell (World.setCell _ _ _) _ _ = wv16 at HB ⊢
          replace HB := Aside0.mk (show Bx w [(w.heap.size, a0, b0), (gx, c, d)] _ from HB.out.take 2)
          go_wp2_with fail
          go_roundg (n - 1 - i)
          case measure => omega
          case rel => exact ⟨i + 1, ch + 1, c, d, by omega, by first | rfl | (simp; done), by simp, ⟨⟨PZ.out.2.2.2.1, PZ.out.2.2.2.2, by have h1 := PZ.out.1; rw [HW.out] at h1; simp at h1; have h2 := HI.out.2.2; omega⟩⟩, HB⟩
      · by_cases e2 : d < c
        · skip
          have HE1 : Aside0 (decide (q < p) = false) := ⟨decide_eq_false (by omega)⟩
          have HE2 : Aside0 (decide (d < c) = true) := ⟨decide_eq_true (by omega)⟩
          have HZ : Aside0 (widenv p q c d = (p, q)) := ⟨by unfold widenv; rw [if_pos (by omega)]; unfold joinv; rw [if_neg (by omega), if_neg (by omega), if_pos (by omega)]⟩
          have HW : Aside0 (within p q p q = true) := ⟨decide_eq_true (by have h1 := HI.out.1; have h2 := HI.out.2.1; have h3 := ic.out; have h4 := id.out; unfold I32 at h1 h2 h3 h4; omega)⟩
          clear e1 e2
          have PZ := Aside0.mk (widen_pot HI.out.1 HI.out.2.1 ic.out id.out HZ.out)
          clear hc0 hc1
          go_wp2_with fail
          (with_reducible refine (widen_c _ _ _ _ _ _ HZ.out _).mono ?_); rintro e wv4 ⟨rfl, hb⟩
          replace HB := Aside0.mk (HB.out.step hb)
          clear hb
          have C := HB.out.cl
          simp only [Cl, and_true] at C
          obtain ⟨_, _, _, _, _, _, _, _, _, _, _, _⟩ := C
          go_upto_region 8 with (fail)
          have hlgz_0 := blk_lt (HB.out.bk 0 rfl)
          have hlgz_1 := blk_lt (HB.out.bk 1 rfl)
          have hlgz_2 := blk_lt (HB.out.bk 2 rfl)
          replace HB := Aside0.mk (show Bx w [(w.heap.size, a0, b0), (gx, p, q), (gy, c, d), (wv4.heap.size, p, q)] _ from HB.out.box rfl p q)
          generalize World.alloc wv4 _ = wv5 at HB ⊢
          generalize wv4.heap.size = gz at HB hlgz_0 hlgz_1 hlgz_2 ⊢
          have C := HB.out.cl
          simp only [Cl, and_true] at C
          obtain ⟨_, _, _, _, _, _, _, _, _, _, _, _, _, _, _, _⟩ := C
          go_wp2_with fail
          (with_reducible refine (within_c _ _ _ _ _ PZ.out.2.1 _).mono ?_); rintro e wv6 ⟨rfl, hb⟩
          replace HB := Aside0.mk (HB.out.step hb)
          clear hb
          have C := HB.out.cl
          simp only [Cl, and_true] at C
          obtain ⟨_, _, _, _, _, _, _, _, _, _, _, _, _, _, _, _⟩ := C
          go_wp2_with fail
          (with_reducible refine (within_c _ _ _ _ _ PZ.out.2.2.1 _).mono ?_); rintro e wv7 ⟨rfl, hb⟩
          replace HB := Aside0.mk (HB.out.step hb)
          clear hb
          have C := HB.out.cl
          simp only [Cl, and_true] at C
          obtain ⟨_, _, _, _, _, _, _, _, _, _, _, _, _, _, _, _⟩ := C
          go_wp2_with fail
          (with_reducible refine (isE_c _ _ _ HE1.out _).mono ?_); rintro e wv8 ⟨rfl, hb⟩
          replace HB := Aside0.mk (HB.out.step hb)
          clear hb
          have C := HB.out.cl
          simp only [Cl, and_true] at C
          obtain ⟨_, _, _, _, _, _, _, _, _, _, _, _, _, _, _, _⟩ := C
          go_wp2_with fail
          (with_reducible refine (isE_c _ _ _ HE2.out _).mono ?_); rintro e wv9 ⟨rfl, hb⟩
          replace HB := Aside0.mk (HB.out.step hb)
          clear hb
          have C := HB.out.cl
          simp only [Cl, and_true] at C
          obtain ⟨_, _, _, _, _, _, _, _, _, _, _, _, _, _, _, _⟩ := C
          go_upto_region 18 with (fail)
          replace HB := Aside0.mk (HB.out.drew)
          refine start_ (n := 39) (S := fun w' => w'.cell? ⟨gx, 0, none⟩ = some (.int .i32 p) ∧ w'.cell? ⟨gx, 1, none⟩ = some (.int .i32 q) ∧ w'.cell? ⟨gy, 0, none⟩ = some (.int .i32 c) ∧ w'.cell? ⟨gy, 1, none⟩ = some (.int .i32 d) ∧ w'.cell? ⟨gz, 0, none⟩ = some (.int .i32 p) ∧ w'.cell? ⟨gz, 1, none⟩ = some (.int .i32 q)) (ds := []) #[false, false, false, false, false, false, false, false, false, false, false, false, false, false, false, false, false, false, false, false, false, false, false, false, false, false, false, false, false, false, false, false, false, false, false, false, false, false, false] (by kernel_rfl) rfl rfl ⟨HB.out.c0 1 rfl, HB.out.c1 1 rfl, HB.out.c0 2 rfl, HB.out.c1 2 rfl, HB.out.c0 3 rfl, HB.out.c1 3 rfl⟩ (fun hHeld => ?_)
          generalize wv9.drew = wv10 at HB hHeld ⊢
          refine take_ (i := 0) (N := some 67) (v := ?_) (a' := ?_) (bl 39 1) rfl rfl (by kernel_rfl) (fun _ _ _ h => h) (Or.inl ⟨by rfl, ?_⟩) hHeld ?_ ?_
          rotate_left
          · rintro w' ⟨s0, s1, s2, s3, s4, s5⟩; go_simp; with_reducible rfl
          rotate_left
          · simp only [Act.put, zA, zB, zC, i64_w, i32_w]; rfl
          refine one_ (i := 1) (N := some 68) (bl 39 3) rfl rfl (by kernel_rfl) (by decide) (fun K hK => ?_)
          refine goes_ Try.func32 (by kernel_rfl) rfl #[.agg #[.int .i32 p, .int .i32 q]] (by rfl) rfl rfl (by (try simp only [List.map_toArray, List.map_cons, List.map_nil]); first | done | rfl) ?_
          with_reducible refine (isE_c _ _ _ HE1.out _).mono ?_
          rintro e wv11 ⟨rfl, hb⟩; refine ⟨_, rfl, ?_⟩
          replace HB := Aside0.mk (HB.out.step hb); clear hb
          refine hK.out _ _ ⟨HB.out.c0 1 rfl, HB.out.c1 1 rfl, HB.out.c0 2 rfl, HB.out.c1 2 rfl, HB.out.c0 3 rfl, HB.out.c1 3 rfl⟩ (fun hHeld => ?_)
          clear hK K
          refine norm_ (a' := ?_) ?_ ?_; rotate_left
          · show Act.put _ (some 68) _ = _; simp only [Act.put, zA, zB, zC, i64_w, i32_w]; rfl
          refine pure_ (i := 2) (N := some 69) (v := ?_) (a' := ?_) (bl 39 7) rfl rfl (by kernel_rfl) (fun _ _ _ h => h) (Or.inl ⟨by rfl, ?_⟩) ?_ ?_
          rotate_left
          · intro w'; go_simp; with_reducible rfl
          rotate_left
          · simp only [Act.put, zA, zB, zC, i64_w, i32_w]; rfl
          refine pure_ (i := 3) (N := some 70) (v := undef) (a' := ?_) (bl 39 15) rfl rfl (by kernel_rfl) (fun _ _ _ h => h) (Or.inr ⟨by rfl, rfl⟩) ?_ ?_
          rotate_left
          · simp only [Act.put, zA, zB, zC, i64_w, i32_w]; rfl
          refine pure_ (i := 4) (N := some 71) (v := undef) (a' := ?_) (bl 39 31) rfl rfl (by kernel_rfl) (fun _ _ _ h => h) (Or.inr ⟨by rfl, rfl⟩) ?_ ?_
          rotate_left
          · simp only [Act.put, zA, zB, zC, i64_w, i32_w]; rfl
          refine pure_ (i := 5) (N := some 72) (v := ?_) (a' := ?_) (bl 39 63) rfl rfl (by kernel_rfl) (fun _ _ _ h => h) (Or.inl ⟨by rfl, ?_⟩) ?_ ?_
          rotate_left
          · intro w'; go_simp; with_reducible rfl
          rotate_left
          · simp only [Act.put, zA, zB, zC, i64_w, i32_w]; rfl
          refine pure_ (i := 6) (N := some 73) (v := ?_) (a' := ?_) (bl 39 127) rfl rfl (by kernel_rfl) (fun _ _ _ h => h) (Or.inl ⟨by rfl, ?_⟩) ?_ ?_
          rotate_left
          · intro w'; go_simp; with_reducible rfl
          rotate_left
          · simp only [Act.put, zA, zB, zC, i64_w, i32_w]; rfl
          refine pure_ (i := 7) (N := some 74) (v := undef) (a' := ?_) (bl 39 255) rfl rfl (by kernel_rfl) (fun _ _ _ h => h) (Or.inr ⟨by rfl, rfl⟩) ?_ ?_
          rotate_left
          · simp only [Act.put, zA, zB, zC, i64_w, i32_w]; rfl
          refine pure_ (i := 8) (N := some 75) (v := undef) (a' := ?_) (bl 39 511) rfl rfl (by kernel_rfl) (fun _ _ _ h => h) (Or.inr ⟨by rfl, rfl⟩) ?_ ?_
          rotate_left
          · simp only [Act.put, zA, zB, zC, i64_w, i32_w]; rfl
          refine pure_ (i := 9) (N := some 76) (v := undef) (a' := ?_) (bl 39 1023) rfl rfl (by kernel_rfl) (fun _ _ _ h => h) (Or.inr ⟨by rfl, rfl⟩) ?_ ?_
          rotate_left
          · simp only [Act.put, zA, zB, zC, i64_w, i32_w]; rfl
          refine pure_ (i := 10) (N := some 77) (v := ?_) (a' := ?_) (bl 39 2047) rfl rfl (by kernel_rfl) (fun _ _ _ h => h) (Or.inl ⟨by rfl, ?_⟩) ?_ ?_
          rotate_left
          · intro w'; go_simp; with_reducible rfl
          rotate_left
          · simp only [Act.put, zA, zB, zC, i64_w, i32_w]; rfl
          refine pure_ (i := 11) (N := some 78) (v := ?_) (a' := ?_) (bl 39 4095) rfl rfl (by kernel_rfl) (fun _ _ _ h => h) (Or.inl ⟨by rfl, ?_⟩) ?_ ?_
          rotate_left
          · intro w'; go_simp; with_reducible rfl
          rotate_left
          · simp only [Act.put, zA, zB, zC, i64_w, i32_w]; rfl
          refine take_ (i := 12) (N := some 79) (v := ?_) (a' := ?_) (bl 39 8191) rfl rfl (by kernel_rfl) (fun _ _ _ h => h) (Or.inl ⟨by rfl, ?_⟩) hHeld ?_ ?_
          rotate_left
          · rintro w' ⟨s0, s1, s2, s3, s4, s5⟩; go_simp; with_reducible rfl
          rotate_left
          · simp only [Act.put, zA, zB, zC, i64_w, i32_w]; rfl
          refine one_ (i := 13) (N := some 80) (bl 39 16383) rfl rfl (by kernel_rfl) (by decide) (fun K hK => ?_)
          refine goes_ Try.func32 (by kernel_rfl) rfl #[.agg #[.int .i32 p, .int .i32 q]] (by rfl) rfl rfl (by (try simp only [List.map_toArray, List.map_cons, List.map_nil]); first | done | rfl) ?_
          with_reducible refine (isE_c _ _ _ HE1.out _).mono ?_
          rintro e wv12 ⟨rfl, hb⟩; refine ⟨_, rfl, ?_⟩
          replace HB := Aside0.mk (HB.out.step hb); clear hb
          refine hK.out _ _ ⟨HB.out.c0 1 rfl, HB.out.c1 1 rfl, HB.out.c0 2 rfl, HB.out.c1 2 rfl, HB.out.c0 3 rfl, HB.out.c1 3 rfl⟩ (fun hHeld => ?_)
          clear hK K
          refine norm_ (a' := ?_) ?_ ?_; rotate_left
          · show Act.put _ (some 80) _ = _; simp only [Act.put, zA, zB, zC, i64_w, i32_w]; rfl
          refine pure_ (i := 14) (N := some 81) (v := ?_) (a' := ?_) (bl 39 32767) rfl rfl (by kernel_rfl) (fun _ _ _ h => h) (Or.inl ⟨by rfl, ?_⟩) ?_ ?_
          rotate_left
          · intro w'; go_simp; with_reducible rfl
          rotate_left
          · simp only [Act.put, zA, zB, zC, i64_w, i32_w]; rfl
          refine pure_ (i := 15) (N := some 82) (v := undef) (a' := ?_) (bl 39 65535) rfl rfl (by kernel_rfl) (fun _ _ _ h => h) (Or.inr ⟨by rfl, rfl⟩) ?_ ?_
          rotate_left
          · simp only [Act.put, zA, zB, zC, i64_w, i32_w]; rfl
          refine pure_ (i := 16) (N := some 83) (v := undef) (a' := ?_) (bl 39 131071) rfl rfl (by kernel_rfl) (fun _ _ _ h => h) (Or.inr ⟨by rfl, rfl⟩) ?_ ?_
          rotate_left
          · simp only [Act.put, zA, zB, zC, i64_w, i32_w]; rfl
          refine pure_ (i := 17) (N := some 84) (v := undef) (a' := ?_) (bl 39 262143) rfl rfl (by kernel_rfl) (fun _ _ _ h => h) (Or.inr ⟨by rfl, rfl⟩) ?_ ?_
          rotate_left
          · simp only [Act.put, zA, zB, zC, i64_w, i32_w]; rfl
          refine pure_ (i := 18) (N := some 85) (v := ?_) (a' := ?_) (bl 39 524287) rfl rfl (by kernel_rfl) (fun _ _ _ h => h) (Or.inl ⟨by rfl, ?_⟩) ?_ ?_
          rotate_left
          · intro w'; go_simp; with_reducible rfl
          rotate_left
          · simp only [Act.put, zA, zB, zC, i64_w, i32_w]; rfl
          refine pure_ (i := 19) (N := some 86) (v := ?_) (a' := ?_) (bl 39 1048575) rfl rfl (by kernel_rfl) (fun _ _ _ h => h) (Or.inl ⟨by rfl, ?_⟩) ?_ ?_
          rotate_left
          · intro w'; go_simp; with_reducible rfl
          rotate_left
          · simp only [Act.put, zA, zB, zC, i64_w, i32_w]; rfl
          refine pure_ (i := 20) (N := some 87) (v := undef) (a' := ?_) (bl 39 2097151) rfl rfl (by kernel_rfl) (fun _ _ _ h => h) (Or.inr ⟨by rfl, rfl⟩) ?_ ?_
          rotate_left
          · simp only [Act.put, zA, zB, zC, i64_w, i32_w]; rfl
          refine pure_ (i := 21) (N := some 88) (v := undef) (a' := ?_) (bl 39 4194303) rfl rfl (by kernel_rfl) (fun _ _ _ h => h) (Or.inr ⟨by rfl, rfl⟩) ?_ ?_
          rotate_left
          · simp only [Act.put, zA, zB, zC, i64_w, i32_w]; rfl
          refine pure_ (i := 22) (N := some 89) (v := undef) (a' := ?_) (bl 39 8388607) rfl rfl (by kernel_rfl) (fun _ _ _ h => h) (Or.inr ⟨by rfl, rfl⟩) ?_ ?_
          rotate_left
          · simp only [Act.put, zA, zB, zC, i64_w, i32_w]; rfl
          refine pure_ (i := 23) (N := some 90) (v := ?_) (a' := ?_) (bl 39 16777215) rfl rfl (by kernel_rfl) (fun _ _ _ h => h) (Or.inl ⟨by rfl, ?_⟩) ?_ ?_
          rotate_left
          · intro w'; go_simp; with_reducible rfl
          rotate_left
          · simp only [Act.put, zA, zB, zC, i64_w, i32_w]; rfl
          refine pure_ (i := 24) (N := some 91) (v := ?_) (a' := ?_) (bl 39 33554431) rfl rfl (by kernel_rfl) (fun _ _ _ h => h) (Or.inl ⟨by rfl, ?_⟩) ?_ ?_
          rotate_left
          · intro w'; go_simp; with_reducible rfl
          rotate_left
          · simp only [Act.put, zA, zB, zC, i64_w, i32_w]; rfl
          refine pure_ (i := 25) (N := some 92) (v := ?_) (a' := ?_) (bl 39 67108863) rfl rfl (by kernel_rfl) (fun _ _ _ h => h) (Or.inl ⟨by rfl, ?_⟩) ?_ ?_
          rotate_left
          · intro w'; go_simp; with_reducible rfl
          rotate_left
          · simp only [Act.put, zA, zB, zC, i64_w, i32_w]; rfl
          refine take_ (i := 26) (N := some 93) (v := ?_) (a' := ?_) (bl 39 134217727) rfl rfl (by kernel_rfl) (fun _ _ _ h => h) (Or.inl ⟨by rfl, ?_⟩) hHeld ?_ ?_
          rotate_left
          · rintro w' ⟨s0, s1, s2, s3, s4, s5⟩; go_simp; with_reducible rfl
          rotate_left
          · simp only [Act.put, zA, zB, zC, i64_w, i32_w]; rfl
          refine one_ (i := 27) (N := some 94) (bl 39 268435455) rfl rfl (by kernel_rfl) (by decide) (fun K hK => ?_)
          refine goes_ Try.func32 (by kernel_rfl) rfl #[.agg #[.int .i32 c, .int .i32 d]] (by rfl) rfl rfl (by (try simp only [List.map_toArray, List.map_cons, List.map_nil]); first | done | rfl) ?_
          with_reducible refine (isE_c _ _ _ HE2.out _).mono ?_
          rintro e wv13 ⟨rfl, hb⟩; refine ⟨_, rfl, ?_⟩
          replace HB := Aside0.mk (HB.out.step hb); clear hb
          refine hK.out _ _ ⟨HB.out.c0 1 rfl, HB.out.c1 1 rfl, HB.out.c0 2 rfl, HB.out.c1 2 rfl, HB.out.c0 3 rfl, HB.out.c1 3 rfl⟩ (fun hHeld => ?_)
          clear hK K
          refine norm_ (a' := ?_) ?_ ?_; rotate_left
          · show Act.put _ (some 94) _ = _; simp only [Act.put, zA, zB, zC, i64_w, i32_w]; rfl
          refine pure_ (i := 28) (N := some 95) (v := ?_) (a' := ?_) (bl 39 536870911) rfl rfl (by kernel_rfl) (fun _ _ _ h => h) (Or.inl ⟨by rfl, ?_⟩) ?_ ?_
          rotate_left
          · intro w'; go_simp; with_reducible rfl
          rotate_left
          · simp only [Act.put, zA, zB, zC, i64_w, i32_w]; rfl
          refine take_ (i := 29) (N := some 96) (v := ?_) (a' := ?_) (bl 39 1073741823) rfl rfl (by kernel_rfl) (fun _ _ _ h => h) (Or.inl ⟨by rfl, ?_⟩) hHeld ?_ ?_
          rotate_left
          · rintro w' ⟨s0, s1, s2, s3, s4, s5⟩; go_simp; with_reducible rfl
          rotate_left
          · simp only [Act.put, zA, zB, zC, i64_w, i32_w]; rfl
          refine one_ (i := 30) (N := some 97) (bl 39 2147483647) rfl rfl (by kernel_rfl) (by decide) (fun K hK => ?_)
          refine goes_ Try.func32 (by kernel_rfl) rfl #[.agg #[.int .i32 p, .int .i32 q]] (by rfl) rfl rfl (by (try simp only [List.map_toArray, List.map_cons, List.map_nil]); first | done | rfl) ?_
          with_reducible refine (isE_c _ _ _ HE1.out _).mono ?_
          rintro e wv14 ⟨rfl, hb⟩; refine ⟨_, rfl, ?_⟩
          replace HB := Aside0.mk (HB.out.step hb); clear hb
          refine hK.out _ _ ⟨HB.out.c0 1 rfl, HB.out.c1 1 rfl, HB.out.c0 2 rfl, HB.out.c1 2 rfl, HB.out.c0 3 rfl, HB.out.c1 3 rfl⟩ (fun hHeld => ?_)
          clear hK K
          refine norm_ (a' := ?_) ?_ ?_; rotate_left
          · show Act.put _ (some 97) _ = _; simp only [Act.put, zA, zB, zC, i64_w, i32_w]; rfl
          refine pure_ (i := 31) (N := some 98) (v := ?_) (a' := ?_) (bl 39 4294967295) rfl rfl (by kernel_rfl) (fun _ _ _ h => h) (Or.inl ⟨by rfl, ?_⟩) ?_ ?_
          rotate_left
          · intro w'; go_simp; with_reducible rfl
          rotate_left
          · simp only [Act.put, zA, zB, zC, i64_w, i32_w]; rfl
          refine pure_ (i := 32) (N := some 99) (v := ?_) (a' := ?_) (bl 39 8589934591) rfl rfl (by kernel_rfl) (fun _ _ _ h => h) (Or.inl ⟨by rfl, ?_⟩) ?_ ?_
          rotate_left
          · intro w'; go_simp; with_reducible rfl
          rotate_left
          · simp only [Act.put, zA, zB, zC, i64_w, i32_w]; rfl
          refine pure_ (i := 33) (N := some 100) (v := ?_) (a' := ?_) (bl 39 17179869183) rfl rfl (by kernel_rfl) (fun _ _ _ h => h) (Or.inl ⟨by rfl, ?_⟩) ?_ ?_
          rotate_left
          · intro w'; go_simp; with_reducible rfl
          rotate_left
          · simp only [Act.put, zA, zB, zC, i64_w, i32_w]; rfl
          refine take_ (i := 34) (N := some 101) (v := ?_) (a' := ?_) (bl 39 34359738367) rfl rfl (by kernel_rfl) (fun _ _ _ h => h) (Or.inl ⟨by rfl, ?_⟩) hHeld ?_ ?_
          rotate_left
          · rintro w' ⟨s0, s1, s2, s3, s4, s5⟩; go_simp; with_reducible rfl
          rotate_left
          · simp only [Act.put, zA, zB, zC, i64_w, i32_w]; rfl
          refine take_ (i := 35) (N := some 102) (v := ?_) (a' := ?_) (bl 39 68719476735) rfl rfl (by kernel_rfl) (fun _ _ _ h => h) (Or.inl ⟨by rfl, ?_⟩) hHeld ?_ ?_
          rotate_left
          · rintro w' ⟨s0, s1, s2, s3, s4, s5⟩; go_simp; with_reducible rfl
          rotate_left
          · simp only [Act.put, zA, zB, zC, i64_w, i32_w]; rfl
          refine pure_ (i := 36) (N := some 103) (v := ?_) (a' := ?_) (bl 39 137438953471) rfl rfl (by kernel_rfl) (fun _ _ _ h => h) (Or.inl ⟨by rfl, ?_⟩) ?_ ?_
          rotate_left
          · intro w'; go_simp; with_reducible rfl
          rotate_left
          · simp only [Act.put, zA, zB, zC, i64_w, i32_w]; rfl
          refine pure_ (i := 37) (N := some 104) (v := ?_) (a' := ?_) (bl 39 274877906943) rfl rfl (by kernel_rfl) (fun _ _ _ h => h) (Or.inl ⟨by rfl, ?_⟩) ?_ ?_
          rotate_left
          · intro w'; go_simp; with_reducible rfl
          rotate_left
          · simp only [Act.put, zA, zB, zC, i64_w, i32_w]; rfl
          refine pure_ (i := 38) (N := some 105) (v := ?_) (a' := ?_) (bl 39 549755813887) rfl rfl (by kernel_rfl) (fun _ _ _ h => h) (Or.inl ⟨by rfl, ?_⟩) ?_ ?_
          rotate_left
          · intro w'; go_simp; with_reducible rfl
          rotate_left
          · simp only [Act.put, zA, zB, zC, i64_w, i32_w]; rfl
          refine done_ (by kernel_rfl) ?_
          have C := HB.out.cl
          simp only [Cl, and_true] at C
          obtain ⟨_, _, _, _, _, _, _, _, _, _, _, _, _, _, _, _⟩ := C
          go_wp2_with fail
          (with_reducible refine (within_c _ _ _ _ _ HW.out _).mono ?_); rintro e wv15 ⟨rfl, hb⟩
          replace HB := Aside0.mk (HB.out.step hb)
          clear hb
          have C := HB.out.cl
          simp only [Cl, and_true] at C
          obtain ⟨_, _, _, _, _, _, _, _, _, _, _, _, _, _, _, _⟩ := C
          go_upto_region 23 with (fail)
          replace HB := Aside0.mk (show Bx w [(w.heap.size, a0, b0), (gx, p, q), (gy, c, d), (gz, p, q)] _ from HB.out.put 1 rfl (by intro m g' a' b' hm hne; rcases m with _ | _ | _ | _ | m <;> simp at hm <;> omega) (by omega) p q)
          generalize World.setCell (World.setCell _ _ _) _ _ = wv16 at HB ⊢
          replace HB := Aside0.mk (show Bx w [(w.heap.size, a0, b0), (gx, p, q)] _ from HB.out.take 2)
          go_wp2_with fail
          go_roundg (n - 1 - i)
          case measure => omega
          case rel => exact ⟨i + 1, ch, p, q, by omega, by first | rfl | (simp; done), by simp, ⟨⟨PZ.out.2.2.2.1, PZ.out.2.2.2.2, by have h1 := PZ.out.1; rw [HW.out] at h1; simp at h1; have h2 := HI.out.2.2; omega⟩⟩, HB⟩
        · by_cases e3 : c < p
          · by_cases e4 : q < d
            · skip
              have HE1 : Aside0 (decide (q < p) = false) := ⟨decide_eq_false (by omega)⟩
              have HE2 : Aside0 (decide (d < c) = false) := ⟨decide_eq_false (by omega)⟩
              have hlo : decide (c < p) = true := decide_eq_true (by omega)
              have hhi : decide (q < d) = true := decide_eq_true (by omega)
              have HZ : Aside0 (widenv p q c d = ((-2147483648), 2147483647)) := ⟨by unfold widenv; rw [if_neg (by omega), if_pos (by omega), if_pos (by omega)]⟩
              have HW : Aside0 (within (-2147483648) 2147483647 p q = false) := ⟨decide_eq_false (by have h1 := HI.out.1; have h2 := HI.out.2.1; have h3 := ic.out; have h4 := id.out; unfold I32 at h1 h2 h3 h4; omega)⟩
              clear e1 e2 e3 e4
              have PZ := Aside0.mk (widen_pot HI.out.1 HI.out.2.1 ic.out id.out HZ.out)
              clear hc0 hc1
              go_wp2_with fail
              (with_reducible refine (widen_c _ _ _ _ _ _ HZ.out _).mono ?_); rintro e wv4 ⟨rfl, hb⟩
              replace HB := Aside0.mk (HB.out.step hb)
              clear hb
              have C := HB.out.cl
              simp only [Cl, and_true] at C
              obtain ⟨_, _, _, _, _, _, _, _, _, _, _, _⟩ := C
              go_upto_region 8 with (fail)
              have hlgz_0 := blk_lt (HB.out.bk 0 rfl)
              have hlgz_1 := blk_lt (HB.out.bk 1 rfl)
              have hlgz_2 := blk_lt (HB.out.bk 2 rfl)
              replace HB := Aside0.mk (show Bx w [(w.heap.size, a0, b0), (gx, p, q), (gy, c, d), (wv4.heap.size, (-2147483648), 2147483647)] _ from HB.out.box rfl (-2147483648) 2147483647)
              generalize World.alloc wv4 _ = wv5 at HB ⊢
              generalize wv4.heap.size = gz at HB hlgz_0 hlgz_1 hlgz_2 ⊢
              have C := HB.out.cl
              simp only [Cl, and_true] at C
              obtain ⟨_, _, _, _, _, _, _, _, _, _, _, _, _, _, _, _⟩ := C
              go_wp2_with fail
              (with_reducible refine (within_c _ _ _ _ _ PZ.out.2.1 _).mono ?_); rintro e wv6 ⟨rfl, hb⟩
              replace HB := Aside0.mk (HB.out.step hb)
              clear hb
              have C := HB.out.cl
              simp only [Cl, and_true] at C
              obtain ⟨_, _, _, _, _, _, _, _, _, _, _, _, _, _, _, _⟩ := C
              go_wp2_with fail
              (with_reducible refine (within_c _ _ _ _ _ PZ.out.2.2.1 _).mono ?_); rintro e wv7 ⟨rfl, hb⟩
              replace HB := Aside0.mk (HB.out.step hb)
              clear hb
              have C := HB.out.cl
              simp only [Cl, and_true] at C
              obtain ⟨_, _, _, _, _, _, _, _, _, _, _, _, _, _, _, _⟩ := C
              go_wp2_with fail
              (with_reducible refine (isE_c _ _ _ HE1.out _).mono ?_); rintro e wv8 ⟨rfl, hb⟩
              replace HB := Aside0.mk (HB.out.step hb)
              clear hb
              have C := HB.out.cl
              simp only [Cl, and_true] at C
              obtain ⟨_, _, _, _, _, _, _, _, _, _, _, _, _, _, _, _⟩ := C
              go_wp2_with fail
              (with_reducible refine (isE_c _ _ _ HE2.out _).mono ?_); rintro e wv9 ⟨rfl, hb⟩
              replace HB := Aside0.mk (HB.out.step hb)
              clear hb
              have C := HB.out.cl
              simp only [Cl, and_true] at C
              obtain ⟨_, _, _, _, _, _, _, _, _, _, _, _, _, _, _, _⟩ := C
              go_upto_region 11 with (fail)
              replace HB := Aside0.mk (HB.out.drew)
              refine start_ (n := 6) (S := fun w' => w'.cell? ⟨gx, 0, none⟩ = some (.int .i32 p) ∧ w'.cell? ⟨gx, 1, none⟩ = some (.int .i32 q)) (ds := []) #[false, false, false, false, false, false] (by kernel_rfl) rfl rfl ⟨HB.out.c0 1 rfl, HB.out.c1 1 rfl⟩ (fun hHeld => ?_)
              generalize wv9.drew = wv10 at HB hHeld ⊢
              refine pure_ (i := 0) (N := some 48) (v := ?_) (a' := ?_) (bl 6 1) rfl rfl (by kernel_rfl) (fun _ _ _ h => h) (Or.inl ⟨by rfl, ?_⟩) ?_ ?_
              rotate_left
              · intro w'; go_simp; with_reducible rfl
              rotate_left
              · simp only [Act.put, zA, zB, zC, i64_w, i32_w]; rfl
              refine pure_ (i := 2) (N := some 50) (v := ?_) (a' := ?_) (bl 6 5) rfl rfl (by kernel_rfl) (fun _ _ _ h => h) (Or.inl ⟨by rfl, ?_⟩) ?_ ?_
              rotate_left
              · intro w'; go_simp; with_reducible rfl
              rotate_left
              · simp only [Act.put, zA, zB, zC, i64_w, i32_w]; rfl
              refine take_ (i := 1) (N := some 49) (v := ?_) (a' := ?_) (bl 6 7) rfl rfl (by kernel_rfl) (fun _ _ _ h => h) (Or.inl ⟨by rfl, ?_⟩) hHeld ?_ ?_
              rotate_left
              · rintro w' ⟨s0, s1⟩; go_simp; with_reducible rfl
              rotate_left
              · simp only [Act.put, zA, zB, zC, i64_w, i32_w]; rfl
              refine pure_ (i := 4) (N := some 10) (v := ?_) (a' := ?_) (bl 6 23) rfl rfl (by kernel_rfl) (fun _ _ _ h => h) (Or.inl ⟨by rfl, ?_⟩) ?_ ?_
              rotate_left
              · intro w'; go_simp; with_reducible rfl
              rotate_left
              · simp only [Act.put, zA, zB, zC, i64_w, i32_w]; rfl
              refine take_ (i := 3) (N := some 51) (v := ?_) (a' := ?_) (bl 6 31) rfl rfl (by kernel_rfl) (fun _ _ _ h => h) (Or.inl ⟨by rfl, ?_⟩) hHeld ?_ ?_
              rotate_left
              · rintro w' ⟨s0, s1⟩; go_simp; with_reducible rfl
              rotate_left
              · simp only [Act.put, zA, zB, zC, i64_w, i32_w]; rfl
              refine pure_ (i := 5) (N := some 11) (v := ?_) (a' := ?_) (bl 6 63) rfl rfl (by kernel_rfl) (fun _ _ _ h => h) (Or.inl ⟨by rfl, ?_⟩) ?_ ?_
              rotate_left
              · intro w'; go_simp; with_reducible rfl
              rotate_left
              · simp only [Act.put, zA, zB, zC, i64_w, i32_w]; rfl
              refine done_ (by kernel_rfl) ?_
              have C := HB.out.cl
              simp only [Cl, and_true] at C
              obtain ⟨_, _, _, _, _, _, _, _, _, _, _, _, _, _, _, _⟩ := C
              go_wp2_with fail
              (with_reducible refine (within_c _ _ _ _ _ HW.out _).mono ?_); rintro e wv11 ⟨rfl, hb⟩
              replace HB := Aside0.mk (HB.out.step hb)
              clear hb
              have C := HB.out.cl
              simp only [Cl, and_true] at C
              obtain ⟨_, _, _, _, _, _, _, _, _, _, _, _, _, _, _, _⟩ := C
              go_upto_region 23 with (fail)
              replace HB := Aside0.mk (show Bx w [(w.heap.size, a0, b0), (gx, (-2147483648), 2147483647), (gy, c, d), (gz, (-2147483648), 2147483647)] _ from HB.out.put 1 rfl (by intro m g' a' b' hm hne; rcases m with _ | _ | _ | _ | m <;> simp at hm <;> omega) (by omega) (-2147483648) 2147483647)
              generalize World.setCell (World.setCell _ _ _) _ _ = wv12 at HB ⊢
              replace HB := Aside0.mk (show Bx w [(w.heap.size, a0, b0), (gx, (-2147483648), 2147483647)] _ from HB.out.take 2)
              go_wp2_with fail
              go_roundg (n - 1 - i)
              case measure => omega
              case rel => exact ⟨i + 1, ch + 1, (-2147483648), 2147483647, by omega, by first | rfl | (simp; done), by simp, ⟨⟨PZ.out.2.2.2.1, PZ.out.2.2.2.2, by have h1 := PZ.out.1; rw [HW.out] at h1; simp at h1; have h2 := HI.out.2.2; omega⟩⟩, HB⟩
            · skip
              have HE1 : Aside0 (decide (q < p) = false) := ⟨decide_eq_false (by omega)⟩
              have HE2 : Aside0 (decide (d < c) = false) := ⟨decide_eq_false (by omega)⟩
              have hlo : decide (c < p) = true := decide_eq_true (by omega)
              have hhi : decide (q < d) = false := decide_eq_false (by omega)
              have HZ : Aside0 (widenv p q c d = ((-2147483648), q)) := ⟨by unfold widenv; rw [if_neg (by omega), if_pos (by omega), if_neg (by omega)]⟩
              have HW : Aside0 (within (-2147483648) q p q = false) := ⟨decide_eq_false (by have h1 := HI.out.1; have h2 := HI.out.2.1; have h3 := ic.out; have h4 := id.out; unfold I32 at h1 h2 h3 h4; omega)⟩
              clear e1 e2 e3 e4
              have PZ := Aside0.mk (widen_pot HI.out.1 HI.out.2.1 ic.out id.out HZ.out)
              clear hc0 hc1
              go_wp2_with fail
              (with_reducible refine (widen_c _ _ _ _ _ _ HZ.out _).mono ?_); rintro e wv4 ⟨rfl, hb⟩
              replace HB := Aside0.mk (HB.out.step hb)
              clear hb
              have C := HB.out.cl
              simp only [Cl, and_true] at C
              obtain ⟨_, _, _, _, _, _, _, _, _, _, _, _⟩ := C
              go_upto_region 8 with (fail)
              have hlgz_0 := blk_lt (HB.out.bk 0 rfl)
              have hlgz_1 := blk_lt (HB.out.bk 1 rfl)
              have hlgz_2 := blk_lt (HB.out.bk 2 rfl)
              replace HB := Aside0.mk (show Bx w [(w.heap.size, a0, b0), (gx, p, q), (gy, c, d), (wv4.heap.size, (-2147483648), q)] _ from HB.out.box rfl (-2147483648) q)
              generalize World.alloc wv4 _ = wv5 at HB ⊢
              generalize wv4.heap.size = gz at HB hlgz_0 hlgz_1 hlgz_2 ⊢
              have C := HB.out.cl
              simp only [Cl, and_true] at C
              obtain ⟨_, _, _, _, _, _, _, _, _, _, _, _, _, _, _, _⟩ := C
              go_wp2_with fail
              (with_reducible refine (within_c _ _ _ _ _ PZ.out.2.1 _).mono ?_); rintro e wv6 ⟨rfl, hb⟩
              replace HB := Aside0.mk (HB.out.step hb)
              clear hb
              have C := HB.out.cl
              simp only [Cl, and_true] at C
              obtain ⟨_, _, _, _, _, _, _, _, _, _, _, _, _, _, _, _⟩ := C
              go_wp2_with fail
              (with_reducible refine (within_c _ _ _ _ _ PZ.out.2.2.1 _).mono ?_); rintro e wv7 ⟨rfl, hb⟩
              replace HB := Aside0.mk (HB.out.step hb)
              clear hb
              have C := HB.out.cl
              simp only [Cl, and_true] at C
              obtain ⟨_, _, _, _, _, _, _, _, _, _, _, _, _, _, _, _⟩ := C
              go_wp2_with fail
              (with_reducible refine (isE_c _ _ _ HE1.out _).mono ?_); rintro e wv8 ⟨rfl, hb⟩
              replace HB := Aside0.mk (HB.out.step hb)
              clear hb
              have C := HB.out.cl
              simp only [Cl, and_true] at C
              obtain ⟨_, _, _, _, _, _, _, _, _, _, _, _, _, _, _, _⟩ := C
              go_wp2_with fail
              (with_reducible refine (isE_c _ _ _ HE2.out _).mono ?_); rintro e wv9 ⟨rfl, hb⟩
              replace HB := Aside0.mk (HB.out.step hb)
              clear hb
              have C := HB.out.cl
              simp only [Cl, and_true] at C
              obtain ⟨_, _, _, _, _, _, _, _, _, _, _, _, _, _, _, _⟩ := C
              go_upto_region 11 with (fail)
              replace HB := Aside0.mk (HB.out.drew)
              refine start_ (n := 6) (S := fun w' => w'.cell? ⟨gx, 0, none⟩ = some (.int .i32 p) ∧ w'.cell? ⟨gx, 1, none⟩ = some (.int .i32 q)) (ds := []) #[false, false, false, false, false, false] (by kernel_rfl) rfl rfl ⟨HB.out.c0 1 rfl, HB.out.c1 1 rfl⟩ (fun hHeld => ?_)
              generalize wv9.drew = wv10 at HB hHeld ⊢
              refine pure_ (i := 0) (N := some 48) (v := ?_) (a' := ?_) (bl 6 1) rfl rfl (by kernel_rfl) (fun _ _ _ h => h) (Or.inl ⟨by rfl, ?_⟩) ?_ ?_
              rotate_left
              · intro w'; go_simp; with_reducible rfl
              rotate_left
              · simp only [Act.put, zA, zB, zC, i64_w, i32_w]; rfl
              refine pure_ (i := 2) (N := some 50) (v := ?_) (a' := ?_) (bl 6 5) rfl rfl (by kernel_rfl) (fun _ _ _ h => h) (Or.inl ⟨by rfl, ?_⟩) ?_ ?_
              rotate_left
              · intro w'; go_simp; with_reducible rfl
              rotate_left
              · simp only [Act.put, zA, zB, zC, i64_w, i32_w]; rfl
              refine take_ (i := 1) (N := some 49) (v := ?_) (a' := ?_) (bl 6 7) rfl rfl (by kernel_rfl) (fun _ _ _ h => h) (Or.inl ⟨by rfl, ?_⟩) hHeld ?_ ?_
              rotate_left
              · rintro w' ⟨s0, s1⟩; go_simp; with_reducible rfl
              rotate_left
              · simp only [Act.put, zA, zB, zC, i64_w, i32_w]; rfl
              refine pure_ (i := 4) (N := some 10) (v := ?_) (a' := ?_) (bl 6 23) rfl rfl (by kernel_rfl) (fun _ _ _ h => h) (Or.inl ⟨by rfl, ?_⟩) ?_ ?_
              rotate_left
              · intro w'; go_simp; with_reducible rfl
              rotate_left
              · simp only [Act.put, zA, zB, zC, i64_w, i32_w]; rfl
              refine take_ (i := 3) (N := some 51) (v := ?_) (a' := ?_) (bl 6 31) rfl rfl (by kernel_rfl) (fun _ _ _ h => h) (Or.inl ⟨by rfl, ?_⟩) hHeld ?_ ?_
              rotate_left
              · rintro w' ⟨s0, s1⟩; go_simp; with_reducible rfl
              rotate_left
              · simp only [Act.put, zA, zB, zC, i64_w, i32_w]; rfl
              refine pure_ (i := 5) (N := some 11) (v := ?_) (a' := ?_) (bl 6 63) rfl rfl (by kernel_rfl) (fun _ _ _ h => h) (Or.inl ⟨by rfl, ?_⟩) ?_ ?_
              rotate_left
              · intro w'; go_simp; with_reducible rfl
              rotate_left
              · simp only [Act.put, zA, zB, zC, i64_w, i32_w]; rfl
              refine done_ (by kernel_rfl) ?_
              have C := HB.out.cl
              simp only [Cl, and_true] at C
              obtain ⟨_, _, _, _, _, _, _, _, _, _, _, _, _, _, _, _⟩ := C
              go_wp2_with fail
              (with_reducible refine (within_c _ _ _ _ _ HW.out _).mono ?_); rintro e wv11 ⟨rfl, hb⟩
              replace HB := Aside0.mk (HB.out.step hb)
              clear hb
              have C := HB.out.cl
              simp only [Cl, and_true] at C
              obtain ⟨_, _, _, _, _, _, _, _, _, _, _, _, _, _, _, _⟩ := C
              go_upto_region 23 with (fail)
              replace HB := Aside0.mk (show Bx w [(w.heap.size, a0, b0), (gx, (-2147483648), q), (gy, c, d), (gz, (-2147483648), q)] _ from HB.out.put 1 rfl (by intro m g' a' b' hm hne; rcases m with _ | _ | _ | _ | m <;> simp at hm <;> omega) (by omega) (-2147483648) q)
              generalize World.setCell (World.setCell _ _ _) _ _ = wv12 at HB ⊢
              replace HB := Aside0.mk (show Bx w [(w.heap.size, a0, b0), (gx, (-2147483648), q)] _ from HB.out.take 2)
              go_wp2_with fail
              go_roundg (n - 1 - i)
              case measure => omega
              case rel => exact ⟨i + 1, ch + 1, (-2147483648), q, by omega, by first | rfl | (simp; done), by simp, ⟨⟨PZ.out.2.2.2.1, PZ.out.2.2.2.2, by have h1 := PZ.out.1; rw [HW.out] at h1; simp at h1; have h2 := HI.out.2.2; omega⟩⟩, HB⟩
          · by_cases e4 : q < d
            · skip
              have HE1 : Aside0 (decide (q < p) = false) := ⟨decide_eq_false (by omega)⟩
              have HE2 : Aside0 (decide (d < c) = false) := ⟨decide_eq_false (by omega)⟩
              have hlo : decide (c < p) = false := decide_eq_false (by omega)
              have hhi : decide (q < d) = true := decide_eq_true (by omega)
              have HZ : Aside0 (widenv p q c d = (p, 2147483647)) := ⟨by unfold widenv; rw [if_neg (by omega), if_neg (by omega), if_pos (by omega)]⟩
              have HW : Aside0 (within p 2147483647 p q = false) := ⟨decide_eq_false (by have h1 := HI.out.1; have h2 := HI.out.2.1; have h3 := ic.out; have h4 := id.out; unfold I32 at h1 h2 h3 h4; omega)⟩
              clear e1 e2 e3 e4
              have PZ := Aside0.mk (widen_pot HI.out.1 HI.out.2.1 ic.out id.out HZ.out)
              clear hc0 hc1
              go_wp2_with fail
              (with_reducible refine (widen_c _ _ _ _ _ _ HZ.out _).mono ?_); rintro e wv4 ⟨rfl, hb⟩
              replace HB := Aside0.mk (HB.out.step hb)
              clear hb
              have C := HB.out.cl
              simp only [Cl, and_true] at C
              obtain ⟨_, _, _, _, _, _, _, _, _, _, _, _⟩ := C
              go_upto_region 8 with (fail)
              have hlgz_0 := blk_lt (HB.out.bk 0 rfl)
              have hlgz_1 := blk_lt (HB.out.bk 1 rfl)
              have hlgz_2 := blk_lt (HB.out.bk 2 rfl)
              replace HB := Aside0.mk (show Bx w [(w.heap.size, a0, b0), (gx, p, q), (gy, c, d), (wv4.heap.size, p, 2147483647)] _ from HB.out.box rfl p 2147483647)
              generalize World.alloc wv4 _ = wv5 at HB ⊢
              generalize wv4.heap.size = gz at HB hlgz_0 hlgz_1 hlgz_2 ⊢
              have C := HB.out.cl
              simp only [Cl, and_true] at C
              obtain ⟨_, _, _, _, _, _, _, _, _, _, _, _, _, _, _, _⟩ := C
              go_wp2_with fail
              (with_reducible refine (within_c _ _ _ _ _ PZ.out.2.1 _).mono ?_); rintro e wv6 ⟨rfl, hb⟩
              replace HB := Aside0.mk (HB.out.step hb)
              clear hb
              have C := HB.out.cl
              simp only [Cl, and_true] at C
              obtain ⟨_, _, _, _, _, _, _, _, _, _, _, _, _, _, _, _⟩ := C
              go_wp2_with fail
              (with_reducible refine (within_c _ _ _ _ _ PZ.out.2.2.1 _).mono ?_); rintro e wv7 ⟨rfl, hb⟩
              replace HB := Aside0.mk (HB.out.step hb)
              clear hb
              have C := HB.out.cl
              simp only [Cl, and_true] at C
              obtain ⟨_, _, _, _, _, _, _, _, _, _, _, _, _, _, _, _⟩ := C
              go_wp2_with fail
              (with_reducible refine (isE_c _ _ _ HE1.out _).mono ?_); rintro e wv8 ⟨rfl, hb⟩
              replace HB := Aside0.mk (HB.out.step hb)
              clear hb
              have C := HB.out.cl
              simp only [Cl, and_true] at C
              obtain ⟨_, _, _, _, _, _, _, _, _, _, _, _, _, _, _, _⟩ := C
              go_wp2_with fail
              (with_reducible refine (isE_c _ _ _ HE2.out _).mono ?_); rintro e wv9 ⟨rfl, hb⟩
              replace HB := Aside0.mk (HB.out.step hb)
              clear hb
              have C := HB.out.cl
              simp only [Cl, and_true] at C
              obtain ⟨_, _, _, _, _, _, _, _, _, _, _, _, _, _, _, _⟩ := C
              go_upto_region 11 with (fail)
              replace HB := Aside0.mk (HB.out.drew)
              refine start_ (n := 6) (S := fun w' => w'.cell? ⟨gx, 0, none⟩ = some (.int .i32 p) ∧ w'.cell? ⟨gx, 1, none⟩ = some (.int .i32 q)) (ds := []) #[false, false, false, false, false, false] (by kernel_rfl) rfl rfl ⟨HB.out.c0 1 rfl, HB.out.c1 1 rfl⟩ (fun hHeld => ?_)
              generalize wv9.drew = wv10 at HB hHeld ⊢
              refine pure_ (i := 0) (N := some 48) (v := ?_) (a' := ?_) (bl 6 1) rfl rfl (by kernel_rfl) (fun _ _ _ h => h) (Or.inl ⟨by rfl, ?_⟩) ?_ ?_
              rotate_left
              · intro w'; go_simp; with_reducible rfl
              rotate_left
              · simp only [Act.put, zA, zB, zC, i64_w, i32_w]; rfl
              refine pure_ (i := 2) (N := some 50) (v := ?_) (a' := ?_) (bl 6 5) rfl rfl (by kernel_rfl) (fun _ _ _ h => h) (Or.inl ⟨by rfl, ?_⟩) ?_ ?_
              rotate_left
              · intro w'; go_simp; with_reducible rfl
              rotate_left
              · simp only [Act.put, zA, zB, zC, i64_w, i32_w]; rfl
              refine take_ (i := 1) (N := some 49) (v := ?_) (a' := ?_) (bl 6 7) rfl rfl (by kernel_rfl) (fun _ _ _ h => h) (Or.inl ⟨by rfl, ?_⟩) hHeld ?_ ?_
              rotate_left
              · rintro w' ⟨s0, s1⟩; go_simp; with_reducible rfl
              rotate_left
              · simp only [Act.put, zA, zB, zC, i64_w, i32_w]; rfl
              refine pure_ (i := 4) (N := some 10) (v := ?_) (a' := ?_) (bl 6 23) rfl rfl (by kernel_rfl) (fun _ _ _ h => h) (Or.inl ⟨by rfl, ?_⟩) ?_ ?_
              rotate_left
              · intro w'; go_simp; with_reducible rfl
              rotate_left
              · simp only [Act.put, zA, zB, zC, i64_w, i32_w]; rfl
              refine take_ (i := 3) (N := some 51) (v := ?_) (a' := ?_) (bl 6 31) rfl rfl (by kernel_rfl) (fun _ _ _ h => h) (Or.inl ⟨by rfl, ?_⟩) hHeld ?_ ?_
              rotate_left
              · rintro w' ⟨s0, s1⟩; go_simp; with_reducible rfl
              rotate_left
              · simp only [Act.put, zA, zB, zC, i64_w, i32_w]; rfl
              refine pure_ (i := 5) (N := some 11) (v := ?_) (a' := ?_) (bl 6 63) rfl rfl (by kernel_rfl) (fun _ _ _ h => h) (Or.inl ⟨by rfl, ?_⟩) ?_ ?_
              rotate_left
              · intro w'; go_simp; with_reducible rfl
              rotate_left
              · simp only [Act.put, zA, zB, zC, i64_w, i32_w]; rfl
              refine done_ (by kernel_rfl) ?_
              have C := HB.out.cl
              simp only [Cl, and_true] at C
              obtain ⟨_, _, _, _, _, _, _, _, _, _, _, _, _, _, _, _⟩ := C
              go_wp2_with fail
              (with_reducible refine (within_c _ _ _ _ _ HW.out _).mono ?_); rintro e wv11 ⟨rfl, hb⟩
              replace HB := Aside0.mk (HB.out.step hb)
              clear hb
              have C := HB.out.cl
              simp only [Cl, and_true] at C
              obtain ⟨_, _, _, _, _, _, _, _, _, _, _, _, _, _, _, _⟩ := C
              go_upto_region 23 with (fail)
              replace HB := Aside0.mk (show Bx w [(w.heap.size, a0, b0), (gx, p, 2147483647), (gy, c, d), (gz, p, 2147483647)] _ from HB.out.put 1 rfl (by intro m g' a' b' hm hne; rcases m with _ | _ | _ | _ | m <;> simp at hm <;> omega) (by omega) p 2147483647)
              generalize World.setCell (World.setCell _ _ _) _ _ = wv12 at HB ⊢
              replace HB := Aside0.mk (show Bx w [(w.heap.size, a0, b0), (gx, p, 2147483647)] _ from HB.out.take 2)
              go_wp2_with fail
              go_roundg (n - 1 - i)
              case measure => omega
              case rel => exact ⟨i + 1, ch + 1, p, 2147483647, by omega, by first | rfl | (simp; done), by simp, ⟨⟨PZ.out.2.2.2.1, PZ.out.2.2.2.2, by have h1 := PZ.out.1; rw [HW.out] at h1; simp at h1; have h2 := HI.out.2.2; omega⟩⟩, HB⟩
            · skip
              have HE1 : Aside0 (decide (q < p) = false) := ⟨decide_eq_false (by omega)⟩
              have HE2 : Aside0 (decide (d < c) = false) := ⟨decide_eq_false (by omega)⟩
              have hlo : decide (c < p) = false := decide_eq_false (by omega)
              have hhi : decide (q < d) = false := decide_eq_false (by omega)
              have HZ : Aside0 (widenv p q c d = (p, q)) := ⟨by unfold widenv; rw [if_neg (by omega), if_neg (by omega), if_neg (by omega)]⟩
              have HW : Aside0 (within p q p q = true) := ⟨decide_eq_true (by have h1 := HI.out.1; have h2 := HI.out.2.1; have h3 := ic.out; have h4 := id.out; unfold I32 at h1 h2 h3 h4; omega)⟩
              clear e1 e2 e3 e4
              have PZ := Aside0.mk (widen_pot HI.out.1 HI.out.2.1 ic.out id.out HZ.out)
              clear hc0 hc1
              go_wp2_with fail
              (with_reducible refine (widen_c _ _ _ _ _ _ HZ.out _).mono ?_); rintro e wv4 ⟨rfl, hb⟩
              replace HB := Aside0.mk (HB.out.step hb)
              clear hb
              have C := HB.out.cl
              simp only [Cl, and_true] at C
              obtain ⟨_, _, _, _, _, _, _, _, _, _, _, _⟩ := C
              go_upto_region 8 with (fail)
              have hlgz_0 := blk_lt (HB.out.bk 0 rfl)
              have hlgz_1 := blk_lt (HB.out.bk 1 rfl)
              have hlgz_2 := blk_lt (HB.out.bk 2 rfl)
              replace HB := Aside0.mk (show Bx w [(w.heap.size, a0, b0), (gx, p, q), (gy, c, d), (wv4.heap.size, p, q)] _ from HB.out.box rfl p q)
              generalize World.alloc wv4 _ = wv5 at HB ⊢
              generalize wv4.heap.size = gz at HB hlgz_0 hlgz_1 hlgz_2 ⊢
              have C := HB.out.cl
              simp only [Cl, and_true] at C
              obtain ⟨_, _, _, _, _, _, _, _, _, _, _, _, _, _, _, _⟩ := C
              go_wp2_with fail
              (with_reducible refine (within_c _ _ _ _ _ PZ.out.2.1 _).mono ?_); rintro e wv6 ⟨rfl, hb⟩
              replace HB := Aside0.mk (HB.out.step hb)
              clear hb
              have C := HB.out.cl
              simp only [Cl, and_true] at C
              obtain ⟨_, _, _, _, _, _, _, _, _, _, _, _, _, _, _, _⟩ := C
              go_wp2_with fail
              (with_reducible refine (within_c _ _ _ _ _ PZ.out.2.2.1 _).mono ?_); rintro e wv7 ⟨rfl, hb⟩
              replace HB := Aside0.mk (HB.out.step hb)
              clear hb
              have C := HB.out.cl
              simp only [Cl, and_true] at C
              obtain ⟨_, _, _, _, _, _, _, _, _, _, _, _, _, _, _, _⟩ := C
              go_wp2_with fail
              (with_reducible refine (isE_c _ _ _ HE1.out _).mono ?_); rintro e wv8 ⟨rfl, hb⟩
              replace HB := Aside0.mk (HB.out.step hb)
              clear hb
              have C := HB.out.cl
              simp only [Cl, and_true] at C
              obtain ⟨_, _, _, _, _, _, _, _, _, _, _, _, _, _, _, _⟩ := C
              go_wp2_with fail
              (with_reducible refine (isE_c _ _ _ HE2.out _).mono ?_); rintro e wv9 ⟨rfl, hb⟩
              replace HB := Aside0.mk (HB.out.step hb)
              clear hb
              have C := HB.out.cl
              simp only [Cl, and_true] at C
              obtain ⟨_, _, _, _, _, _, _, _, _, _, _, _, _, _, _, _⟩ := C
              go_upto_region 11 with (fail)
              replace HB := Aside0.mk (HB.out.drew)
              refine start_ (n := 6) (S := fun w' => w'.cell? ⟨gx, 0, none⟩ = some (.int .i32 p) ∧ w'.cell? ⟨gx, 1, none⟩ = some (.int .i32 q)) (ds := []) #[false, false, false, false, false, false] (by kernel_rfl) rfl rfl ⟨HB.out.c0 1 rfl, HB.out.c1 1 rfl⟩ (fun hHeld => ?_)
              generalize wv9.drew = wv10 at HB hHeld ⊢
              refine pure_ (i := 0) (N := some 48) (v := ?_) (a' := ?_) (bl 6 1) rfl rfl (by kernel_rfl) (fun _ _ _ h => h) (Or.inl ⟨by rfl, ?_⟩) ?_ ?_
              rotate_left
              · intro w'; go_simp; with_reducible rfl
              rotate_left
              · simp only [Act.put, zA, zB, zC, i64_w, i32_w]; rfl
              refine pure_ (i := 2) (N := some 50) (v := ?_) (a' := ?_) (bl 6 5) rfl rfl (by kernel_rfl) (fun _ _ _ h => h) (Or.inl ⟨by rfl, ?_⟩) ?_ ?_
              rotate_left
              · intro w'; go_simp; with_reducible rfl
              rotate_left
              · simp only [Act.put, zA, zB, zC, i64_w, i32_w]; rfl
              refine take_ (i := 1) (N := some 49) (v := ?_) (a' := ?_) (bl 6 7) rfl rfl (by kernel_rfl) (fun _ _ _ h => h) (Or.inl ⟨by rfl, ?_⟩) hHeld ?_ ?_
              rotate_left
              · rintro w' ⟨s0, s1⟩; go_simp; with_reducible rfl
              rotate_left
              · simp only [Act.put, zA, zB, zC, i64_w, i32_w]; rfl
              refine pure_ (i := 4) (N := some 10) (v := ?_) (a' := ?_) (bl 6 23) rfl rfl (by kernel_rfl) (fun _ _ _ h => h) (Or.inl ⟨by rfl, ?_⟩) ?_ ?_
              rotate_left
              · intro w'; go_simp; with_reducible rfl
              rotate_left
              · simp only [Act.put, zA, zB, zC, i64_w, i32_w]; rfl
              refine take_ (i := 3) (N := some 51) (v := ?_) (a' := ?_) (bl 6 31) rfl rfl (by kernel_rfl) (fun _ _ _ h => h) (Or.inl ⟨by rfl, ?_⟩) hHeld ?_ ?_
              rotate_left
              · rintro w' ⟨s0, s1⟩; go_simp; with_reducible rfl
              rotate_left
              · simp only [Act.put, zA, zB, zC, i64_w, i32_w]; rfl
              refine pure_ (i := 5) (N := some 11) (v := ?_) (a' := ?_) (bl 6 63) rfl rfl (by kernel_rfl) (fun _ _ _ h => h) (Or.inl ⟨by rfl, ?_⟩) ?_ ?_
              rotate_left
              · intro w'; go_simp; with_reducible rfl
              rotate_left
              · simp only [Act.put, zA, zB, zC, i64_w, i32_w]; rfl
              refine done_ (by kernel_rfl) ?_
              have C := HB.out.cl
              simp only [Cl, and_true] at C
              obtain ⟨_, _, _, _, _, _, _, _, _, _, _, _, _, _, _, _⟩ := C
              go_wp2_with fail
              (with_reducible refine (within_c _ _ _ _ _ HW.out _).mono ?_); rintro e wv11 ⟨rfl, hb⟩
              replace HB := Aside0.mk (HB.out.step hb)
              clear hb
              have C := HB.out.cl
              simp only [Cl, and_true] at C
              obtain ⟨_, _, _, _, _, _, _, _, _, _, _, _, _, _, _, _⟩ := C
              go_upto_region 23 with (fail)
              replace HB := Aside0.mk (show Bx w [(w.heap.size, a0, b0), (gx, p, q), (gy, c, d), (gz, p, q)] _ from HB.out.put 1 rfl (by intro m g' a' b' hm hne; rcases m with _ | _ | _ | _ | m <;> simp at hm <;> omega) (by omega) p q)
              generalize World.setCell (World.setCell _ _ _) _ _ = wv12 at HB ⊢
              replace HB := Aside0.mk (show Bx w [(w.heap.size, a0, b0), (gx, p, q)] _ from HB.out.take 2)
              go_wp2_with fail
              go_roundg (n - 1 - i)
              case measure => omega
              case rel => exact ⟨i + 1, ch, p, q, by omega, by first | rfl | (simp; done), by simp, ⟨⟨PZ.out.2.2.2.1, PZ.out.2.2.2.2, by have h1 := PZ.out.1; rw [HW.out] at h1; simp at h1; have h2 := HI.out.2.2; omega⟩⟩, HB⟩
    · skip
      have hd : decide ((i : Int) < n) = false := decide_eq_false (by omega)
      have hc : decide ((ch : Int) ≤ 3) = true := decide_eq_true (by have := HI.out.2.2; omega)
      go_wp2_with fail
      go_ret
      exact ⟨by first | rfl | (simp; done) | (simp [*]; done), HB.out.below⟩

theorem walk (a0 b0 : Int) (ao : Option Addr) (n cap : Nat) (w : World) (wa : (Lit.int .i32 a0).wf = true) (wb : (Lit.int .i32 b0).wf = true) (he : Elems w ao n) : Calls Try.prog 9 #[.agg #[.int .i32 a0, .int .i32 b0], .slice ao n cap] w fun e w' => e = .returned (.bool true) ∧ Below w.heap.size w w' := by
  by_cases h : 60 < n
  · exact long a0 b0 ao n cap (decide_eq_true (by omega)) w
  · exact main a0 b0 ao n cap ⟨i32_wf wa⟩ ⟨i32_wf wb⟩ (decide_eq_false (by omega)) (by omega) w ⟨he⟩

end Go.Proofs.Ytoalomjmmlnclaa.Widens
