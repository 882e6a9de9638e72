/- The walk of 'IntervalSets': for every two intervals and every word the call answers true. -/
import Derived.Test.YtoalomjmmlnclaaIvlF
import Derived.Test.YtoalomjmmlnclaaIvlHas
import Derived.Test.YtoalomjmmlnclaaPIntervalApplyx1
namespace Go.Proofs.Ytoalomjmmlnclaa.Sets
open Go.RowKit Go.Proofs.Ytoalomjmmlnclaa.PIntervalApply Go.Proofs.YtoalomjmmlnclaaW.PrintWords Go.Proofs.YtoalomjmmlnclaaW.PrintLast Go.Proofs.YtoalomjmmlnclaaW.PrintMore
open Go.Proofs.Ytoalomjmmlnclaa.M Go.Proofs.Ytoalomjmmlnclaa.Ivl
attribute [local go_sem] max2_int min2_int max_two min_two max_three min_three max_four min_four
attribute [local go_sem high] eqA38
set_option linter.unusedVariables false
set_option linter.unusedSimpArgs false


set_option maxHeartbeats 4000000 in
set_option maxRecDepth 100000 in
theorem walk0 (a b c d n : Int) (h1 : Bool) (H1 : Aside0 (hasv a b n = h1)) (he : Aside0 (decide (b < a) = true)) (hl : decide (b < a) = true) (hw : Aside0 (within a b c d = true)) (hxx : Aside0 (within a b a b = true)) (hex : Aside0 (within 1 0 a b = true)) (hxf : Aside0 (within a b (-2147483648) 2147483647 = true)) (hf : Aside0 (hasv (-2147483648) 2147483647 n = true)) (hem : Aside0 (hasv 1 0 n = false)) (w : World) : Calls Try.prog 18 #[.agg #[.int .i32 a, .int .i32 b], .agg #[.int .i32 c, .int .i32 d], .int .i32 n] w fun e w' => e = .returned (.bool true) ∧ Below w.heap.size w w' := by
  have hu38 := Try.underlying38
  go_enter Try.func18, Try.ntmps18
  go_upto_region 1 with (fail)
  have HB := Aside0.mk (Bx.start2 w a b c d)
  generalize World.alloc (World.alloc w _) _ = w0 at HB ⊢
  have C := HB.out.cl
  simp only [Cl, and_true] at C
  obtain ⟨_, _, _, _, _, _, _, _⟩ := C
  go_wp2_with fail
  (with_reducible refine (awake_c _).mono ?_); rintro e wv1 ⟨rfl, hb⟩
  have HN := Aside0.mk (HB.out.step hb)
  clear HB
  have HB := HN
  clear HN
  clear hb
  have C := HB.out.cl
  simp only [Cl, and_true] at C
  obtain ⟨_, _, _, _, _, _, _, _⟩ := C
  go_wp2_with fail
  (with_reducible refine (of_c n _).mono ?_); rintro e wv2 ⟨rfl, hb⟩
  have HN := Aside0.mk (HB.out.step hb)
  clear HB
  have HB := HN
  clear HN
  clear hb
  have C := HB.out.cl
  simp only [Cl, and_true] at C
  obtain ⟨_, _, _, _, _, _, _, _⟩ := C
  go_wp2_with fail
  (with_reducible refine (full_c _).mono ?_); rintro e wv3 ⟨rfl, hb⟩
  have HN := Aside0.mk (HB.out.step hb)
  clear HB
  have HB := HN
  clear HN
  clear hb
  have C := HB.out.cl
  simp only [Cl, and_true] at C
  obtain ⟨_, _, _, _, _, _, _, _⟩ := C
  go_wp2_with fail
  (with_reducible refine (contains_c (-2147483648) 2147483647 n true hf.out _).mono ?_); rintro e wv4 ⟨rfl, hb⟩
  have HN := Aside0.mk (HB.out.step hb)
  clear HB
  have HB := HN
  clear HN
  clear hb
  have C := HB.out.cl
  simp only [Cl, and_true] at C
  obtain ⟨_, _, _, _, _, _, _, _⟩ := C
  go_wp2_with fail
  (with_reducible refine (empty_c _).mono ?_); rintro e wv5 ⟨rfl, hb⟩
  have HN := Aside0.mk (HB.out.step hb)
  clear HB
  have HB := HN
  clear HN
  clear hb
  have C := HB.out.cl
  simp only [Cl, and_true] at C
  obtain ⟨_, _, _, _, _, _, _, _⟩ := C
  go_wp2_with fail
  (with_reducible refine (contains_c 1 0 n false hem.out _).mono ?_); rintro e wv6 ⟨rfl, hb⟩
  have HN := Aside0.mk (HB.out.step hb)
  clear HB
  have HB := HN
  clear HN
  clear hb
  have C := HB.out.cl
  simp only [Cl, and_true] at C
  obtain ⟨_, _, _, _, _, _, _, _⟩ := C
  go_wp2_with fail
  (with_reducible refine (empty_c _).mono ?_); rintro e wv7 ⟨rfl, hb⟩
  have HN := Aside0.mk (HB.out.step hb)
  clear HB
  have HB := HN
  clear HN
  clear hb
  have C := HB.out.cl
  simp only [Cl, and_true] at C
  obtain ⟨_, _, _, _, _, _, _, _⟩ := C
  go_wp2_with fail
  have HN := Aside0.mk (HB.out.drew)
  clear HB
  have HB := HN
  clear HN
  refine start_ (n := 17) (S := fun w' => w'.cell? ⟨w.heap.size, 0, none⟩ = some (.int .i32 a) ∧ w'.cell? ⟨w.heap.size, 1, none⟩ = some (.int .i32 b)) (ds := []) #[false, false, false, false, false, false, false, false, false, false, false, false, false, false, false, false, false] (by kernel_rfl) rfl rfl ⟨HB.out.c0 0 rfl, HB.out.c1 0 rfl⟩ (fun hHeld => ?_)
  generalize wv7.drew = wv8 at HB hHeld ⊢
  refine pure_ (i := 1) (N := some 35) (v := ?_) (a' := ?_) (bl 17 2) rfl rfl (by kernel_rfl) (fun _ _ _ h => h) (Or.inl ⟨by rfl, ?_⟩) ?_ ?_
  rotate_left
  · intro w'
    go_simp
    with_reducible rfl
  rotate_left
  · simp only [Act.put, List.setIfInBounds_toArray, List.set_cons_zero, List.set_cons_succ, i64_w, i32_w]
    rfl
  refine pure_ (i := 4) (N := some 38) (v := ?_) (a' := ?_) (bl 17 18) rfl rfl (by kernel_rfl) (fun _ _ _ h => h) (Or.inl ⟨by rfl, ?_⟩) ?_ ?_
  rotate_left
  · intro w'
    go_simp
    with_reducible rfl
  rotate_left
  · simp only [Act.put, List.setIfInBounds_toArray, List.set_cons_zero, List.set_cons_succ, i64_w, i32_w]
    rfl
  refine take_ (i := 0) (N := some 34) (v := ?_) (a' := ?_) (bl 17 19) rfl rfl (by kernel_rfl) (fun _ _ _ h => h) (Or.inl ⟨by rfl, ?_⟩) hHeld ?_ ?_
  rotate_left
  · rintro w' ⟨s0, s1⟩
    go_simp
    with_reducible rfl
  rotate_left
  · simp only [Act.put, List.setIfInBounds_toArray, List.set_cons_zero, List.set_cons_succ, i64_w, i32_w]
    rfl
  refine take_ (i := 3) (N := some 37) (v := ?_) (a' := ?_) (bl 17 27) rfl rfl (by kernel_rfl) (fun _ _ _ h => h) (Or.inl ⟨by rfl, ?_⟩) hHeld ?_ ?_
  rotate_left
  · rintro w' ⟨s0, s1⟩
    go_simp
    with_reducible rfl
  rotate_left
  · simp only [Act.put, List.setIfInBounds_toArray, List.set_cons_zero, List.set_cons_succ, i64_w, i32_w]
    rfl
  refine one_ (i := 2) (N := some 36) (bl 17 31) rfl rfl (by kernel_rfl) (by decide) (fun K hK => ?_)
  refine goes_ Try.func30 (by kernel_rfl) rfl #[.agg #[.int .i32 a, .int .i32 b], .int .i32 n] (by rfl) rfl rfl (by (try simp only [List.map_toArray, List.map_cons, List.map_nil]); first | done | rfl) ?_
  with_reducible refine (contains_c a b n h1 H1.out _).mono ?_
  rintro e wv9 ⟨rfl, hb⟩
  refine ⟨_, rfl, ?_⟩
  have HN := Aside0.mk (HB.out.step hb)
  clear HB
  have HB := HN
  clear HN
  clear hb
  refine hK.out _ _ ⟨HB.out.c0 0 rfl, HB.out.c1 0 rfl⟩ (fun hHeld => ?_)
  clear hK K
  refine norm_ (a' := ?_) ?_ ?_
  rotate_left
  · show Act.put _ (some 36) _ = _
    simp only [Act.put, List.setIfInBounds_toArray, List.set_cons_zero, List.set_cons_succ, i64_w, i32_w]
    rfl
  refine one_ (i := 5) (N := some 39) (bl 17 63) rfl rfl (by kernel_rfl) (by decide) (fun K hK => ?_)
  refine goes_ Try.func31 (by kernel_rfl) rfl #[.agg #[.int .i32 a, .int .i32 b], .int .i32 n] (by rfl) rfl rfl (by (try simp only [List.map_toArray, List.map_cons, List.map_nil]); first | done | rfl) ?_
  with_reducible refine (has_c a b n h1 H1.out _).mono ?_
  rintro e wv10 ⟨rfl, hb⟩
  refine ⟨_, rfl, ?_⟩
  have HN := Aside0.mk (HB.out.step hb)
  clear HB
  have HB := HN
  clear HN
  clear hb
  refine hK.out _ _ ⟨HB.out.c0 0 rfl, HB.out.c1 0 rfl⟩ (fun hHeld => ?_)
  clear hK K
  refine norm_ (a' := ?_) ?_ ?_
  rotate_left
  · show Act.put _ (some 39) _ = _
    simp only [Act.put, List.setIfInBounds_toArray, List.set_cons_zero, List.set_cons_succ, i64_w, i32_w]
    rfl
  refine pure_ (i := 6) (N := some 40) (v := ?_) (a' := ?_) (bl 17 127) rfl rfl (by kernel_rfl) (fun _ _ _ h => h) (Or.inl ⟨by rfl, ?_⟩) ?_ ?_
  rotate_left
  · intro w'
    go_simp
    with_reducible rfl
  rotate_left
  · simp only [Act.put, List.setIfInBounds_toArray, List.set_cons_zero, List.set_cons_succ, i64_w, i32_w]
    rfl
  refine pure_ (i := 7) (N := some 41) (v := ?_) (a' := ?_) (bl 17 255) rfl rfl (by kernel_rfl) (fun _ _ _ h => h) (Or.inl ⟨by rfl, ?_⟩) ?_ ?_
  rotate_left
  · intro w'
    go_simp
    with_reducible rfl
  rotate_left
  · simp only [Act.put, List.setIfInBounds_toArray, List.set_cons_zero, List.set_cons_succ, i64_w, i32_w]
    rfl
  refine pure_ (i := 10) (N := some 44) (v := ?_) (a' := ?_) (bl 17 1279) rfl rfl (by kernel_rfl) (fun _ _ _ h => h) (Or.inl ⟨by rfl, ?_⟩) ?_ ?_
  rotate_left
  · intro w'
    go_simp
    with_reducible rfl
  rotate_left
  · simp only [Act.put, List.setIfInBounds_toArray, List.set_cons_zero, List.set_cons_succ, i64_w, i32_w]
    rfl
  refine pure_ (i := 12) (N := some 46) (v := ?_) (a' := ?_) (bl 17 5375) rfl rfl (by kernel_rfl) (fun _ _ _ h => h) (Or.inl ⟨by rfl, ?_⟩) ?_ ?_
  rotate_left
  · intro w'
    go_simp
    with_reducible rfl
  rotate_left
  · simp only [Act.put, List.setIfInBounds_toArray, List.set_cons_zero, List.set_cons_succ, i64_w, i32_w]
    rfl
  refine take_ (i := 8) (N := some 42) (v := ?_) (a' := ?_) (bl 17 5631) rfl rfl (by kernel_rfl) (fun _ _ _ h => h) (Or.inl ⟨by rfl, ?_⟩) hHeld ?_ ?_
  rotate_left
  · rintro w' ⟨s0, s1⟩
    go_simp
    with_reducible rfl
  rotate_left
  · simp only [Act.put, List.setIfInBounds_toArray, List.set_cons_zero, List.set_cons_succ, i64_w, i32_w]
    rfl
  refine take_ (i := 11) (N := some 45) (v := ?_) (a' := ?_) (bl 17 7679) rfl rfl (by kernel_rfl) (fun _ _ _ h => h) (Or.inl ⟨by rfl, ?_⟩) hHeld ?_ ?_
  rotate_left
  · rintro w' ⟨s0, s1⟩
    go_simp
    with_reducible rfl
  rotate_left
  · simp only [Act.put, List.setIfInBounds_toArray, List.set_cons_zero, List.set_cons_succ, i64_w, i32_w]
    rfl
  refine take_ (i := 13) (N := some 47) (v := ?_) (a' := ?_) (bl 17 15871) rfl rfl (by kernel_rfl) (fun _ _ _ h => h) (Or.inl ⟨by rfl, ?_⟩) hHeld ?_ ?_
  rotate_left
  · rintro w' ⟨s0, s1⟩
    go_simp
    with_reducible rfl
  rotate_left
  · simp only [Act.put, List.setIfInBounds_toArray, List.set_cons_zero, List.set_cons_succ, i64_w, i32_w]
    rfl
  refine pure_ (i := 14) (N := some 48) (v := ?_) (a' := ?_) (bl 17 32255) rfl rfl (by kernel_rfl) (fun _ _ _ h => h) (Or.inl ⟨by rfl, ?_⟩) ?_ ?_
  rotate_left
  · intro w'
    go_simp
    with_reducible rfl
  rotate_left
  · simp only [Act.put, List.setIfInBounds_toArray, List.set_cons_zero, List.set_cons_succ, i64_w, i32_w]
    rfl
  refine one_ (i := 9) (N := some 43) (bl 17 32767) rfl rfl (by kernel_rfl) (by decide) (fun K hK => ?_)
  refine goes_ Try.func32 (by kernel_rfl) rfl #[.agg #[.int .i32 a, .int .i32 b]] (by rfl) rfl rfl (by (try simp only [List.map_toArray, List.map_cons, List.map_nil]); first | done | rfl) ?_
  with_reducible refine (isE_c a b true he.out _).mono ?_
  rintro e wv11 ⟨rfl, hb⟩
  refine ⟨_, rfl, ?_⟩
  have HN := Aside0.mk (HB.out.step hb)
  clear HB
  have HB := HN
  clear HN
  clear hb
  refine hK.out _ _ ⟨HB.out.c0 0 rfl, HB.out.c1 0 rfl⟩ (fun hHeld => ?_)
  clear hK K
  refine norm_ (a' := ?_) ?_ ?_
  rotate_left
  · show Act.put _ (some 43) _ = _
    simp only [Act.put, List.setIfInBounds_toArray, List.set_cons_zero, List.set_cons_succ, i64_w, i32_w]
    rfl
  refine pure_ (i := 15) (N := some 49) (v := ?_) (a' := ?_) (bl 17 65535) rfl rfl (by kernel_rfl) (fun _ _ _ h => h) (Or.inl ⟨by rfl, ?_⟩) ?_ ?_
  rotate_left
  · intro w'
    go_simp
    with_reducible rfl
  rotate_left
  · simp only [Act.put, List.setIfInBounds_toArray, List.set_cons_zero, List.set_cons_succ, i64_w, i32_w]
    rfl
  refine pure_ (i := 16) (N := some 50) (v := ?_) (a' := ?_) (bl 17 131071) rfl rfl (by kernel_rfl) (fun _ _ _ h => h) (Or.inl ⟨by rfl, ?_⟩) ?_ ?_
  rotate_left
  · intro w'
    go_simp
    with_reducible rfl
  rotate_left
  · simp only [Act.put, List.setIfInBounds_toArray, List.set_cons_zero, List.set_cons_succ, i64_w, i32_w]
    rfl
  refine done_ (by kernel_rfl) ?_
  have C := HB.out.cl
  simp only [Cl, and_true] at C
  obtain ⟨_, _, _, _, _, _, _, _⟩ := C
  go_wp2_with fail
  have HN := Aside0.mk (HB.out.drew)
  clear HB
  have HB := HN
  clear HN
  refine start_ (n := 21) (S := fun w' => w'.cell? ⟨w.heap.size, 0, none⟩ = some (.int .i32 a) ∧ w'.cell? ⟨w.heap.size, 1, none⟩ = some (.int .i32 b) ∧ w'.cell? ⟨w.heap.size + 1, 0, none⟩ = some (.int .i32 c) ∧ w'.cell? ⟨w.heap.size + 1, 1, none⟩ = some (.int .i32 d)) (ds := []) #[false, false, false, false, false, false, false, false, false, false, false, false, false, false, false, false, false, false, false, false, false] (by kernel_rfl) rfl rfl ⟨HB.out.c0 0 rfl, HB.out.c1 0 rfl, HB.out.c0 1 rfl, HB.out.c1 1 rfl⟩ (fun hHeld => ?_)
  generalize wv11.drew = wv12 at HB hHeld ⊢
  refine pure_ (i := 3) (N := some 71) (v := ?_) (a' := ?_) (bl 21 8) rfl rfl (by kernel_rfl) (fun _ _ _ h => h) (Or.inl ⟨by rfl, ?_⟩) ?_ ?_
  rotate_left
  · intro w'
    go_simp
    with_reducible rfl
  rotate_left
  · simp only [Act.put, List.setIfInBounds_toArray, List.set_cons_zero, List.set_cons_succ, i64_w, i32_w]
    rfl
  refine take_ (i := 0) (N := some 68) (v := ?_) (a' := ?_) (bl 21 9) rfl rfl (by kernel_rfl) (fun _ _ _ h => h) (Or.inl ⟨by rfl, ?_⟩) hHeld ?_ ?_
  rotate_left
  · rintro w' ⟨s0, s1, s2, s3⟩
    go_simp
    with_reducible rfl
  rotate_left
  · simp only [Act.put, List.setIfInBounds_toArray, List.set_cons_zero, List.set_cons_succ, i64_w, i32_w]
    rfl
  refine take_ (i := 1) (N := some 69) (v := ?_) (a' := ?_) (bl 21 11) rfl rfl (by kernel_rfl) (fun _ _ _ h => h) (Or.inl ⟨by rfl, ?_⟩) hHeld ?_ ?_
  rotate_left
  · rintro w' ⟨s0, s1, s2, s3⟩
    go_simp
    with_reducible rfl
  rotate_left
  · simp only [Act.put, List.setIfInBounds_toArray, List.set_cons_zero, List.set_cons_succ, i64_w, i32_w]
    rfl
  refine one_ (i := 2) (N := some 70) (bl 21 15) rfl rfl (by kernel_rfl) (by decide) (fun K hK => ?_)
  refine goes_ Try.func29 (by kernel_rfl) rfl #[.agg #[.int .i32 a, .int .i32 b], .agg #[.int .i32 c, .int .i32 d]] (by rfl) rfl rfl (by (try simp only [List.map_toArray, List.map_cons, List.map_nil]); first | done | rfl) ?_
  with_reducible refine (within_c a b c d true hw.out _).mono ?_
  rintro e wv13 ⟨rfl, hb⟩
  refine ⟨_, rfl, ?_⟩
  have HN := Aside0.mk (HB.out.step hb)
  clear HB
  have HB := HN
  clear HN
  clear hb
  refine hK.out _ _ ⟨HB.out.c0 0 rfl, HB.out.c1 0 rfl, HB.out.c0 1 rfl, HB.out.c1 1 rfl⟩ (fun hHeld => ?_)
  clear hK K
  refine norm_ (a' := ?_) ?_ ?_
  rotate_left
  · show Act.put _ (some 70) _ = _
    simp only [Act.put, List.setIfInBounds_toArray, List.set_cons_zero, List.set_cons_succ, i64_w, i32_w]
    rfl
  refine pure_ (i := 4) (N := some 72) (v := ?_) (a' := ?_) (bl 21 31) rfl rfl (by kernel_rfl) (fun _ _ _ h => h) (Or.inl ⟨by rfl, ?_⟩) ?_ ?_
  rotate_left
  · intro w'
    go_simp
    with_reducible rfl
  rotate_left
  · simp only [Act.put, List.setIfInBounds_toArray, List.set_cons_zero, List.set_cons_succ, i64_w, i32_w]
    rfl
  refine pure_ (i := 5) (N := some 73) (v := ?_) (a' := ?_) (bl 21 63) rfl rfl (by kernel_rfl) (fun _ _ _ h => h) (Or.inl ⟨by rfl, ?_⟩) ?_ ?_
  rotate_left
  · intro w'
    go_simp
    with_reducible rfl
  rotate_left
  · simp only [Act.put, List.setIfInBounds_toArray, List.set_cons_zero, List.set_cons_succ, i64_w, i32_w]
    rfl
  refine take_ (i := 6) (N := some 74) (v := ?_) (a' := ?_) (bl 21 127) rfl rfl (by kernel_rfl) (fun _ _ _ h => h) (Or.inl ⟨by rfl, ?_⟩) hHeld ?_ ?_
  rotate_left
  · rintro w' ⟨s0, s1, s2, s3⟩
    go_simp
    with_reducible rfl
  rotate_left
  · simp only [Act.put, List.setIfInBounds_toArray, List.set_cons_zero, List.set_cons_succ, i64_w, i32_w]
    rfl
  refine take_ (i := 7) (N := some 75) (v := ?_) (a' := ?_) (bl 21 255) rfl rfl (by kernel_rfl) (fun _ _ _ h => h) (Or.inl ⟨by rfl, ?_⟩) hHeld ?_ ?_
  rotate_left
  · rintro w' ⟨s0, s1, s2, s3⟩
    go_simp
    with_reducible rfl
  rotate_left
  · simp only [Act.put, List.setIfInBounds_toArray, List.set_cons_zero, List.set_cons_succ, i64_w, i32_w]
    rfl
  refine one_ (i := 8) (N := some 76) (bl 21 511) rfl rfl (by kernel_rfl) (by decide) (fun K hK => ?_)
  refine goes_ Try.func29 (by kernel_rfl) rfl #[.agg #[.int .i32 a, .int .i32 b], .agg #[.int .i32 a, .int .i32 b]] (by rfl) rfl rfl (by (try simp only [List.map_toArray, List.map_cons, List.map_nil]); first | done | rfl) ?_
  with_reducible refine (within_c a b a b true hxx.out _).mono ?_
  rintro e wv14 ⟨rfl, hb⟩
  refine ⟨_, rfl, ?_⟩
  have HN := Aside0.mk (HB.out.step hb)
  clear HB
  have HB := HN
  clear HN
  clear hb
  refine hK.out _ _ ⟨HB.out.c0 0 rfl, HB.out.c1 0 rfl, HB.out.c0 1 rfl, HB.out.c1 1 rfl⟩ (fun hHeld => ?_)
  clear hK K
  refine norm_ (a' := ?_) ?_ ?_
  rotate_left
  · show Act.put _ (some 76) _ = _
    simp only [Act.put, List.setIfInBounds_toArray, List.set_cons_zero, List.set_cons_succ, i64_w, i32_w]
    rfl
  refine pure_ (i := 9) (N := some 77) (v := ?_) (a' := ?_) (bl 21 1023) rfl rfl (by kernel_rfl) (fun _ _ _ h => h) (Or.inl ⟨by rfl, ?_⟩) ?_ ?_
  rotate_left
  · intro w'
    go_simp
    with_reducible rfl
  rotate_left
  · simp only [Act.put, List.setIfInBounds_toArray, List.set_cons_zero, List.set_cons_succ, i64_w, i32_w]
    rfl
  refine pure_ (i := 10) (N := some 78) (v := ?_) (a' := ?_) (bl 21 2047) rfl rfl (by kernel_rfl) (fun _ _ _ h => h) (Or.inl ⟨by rfl, ?_⟩) ?_ ?_
  rotate_left
  · intro w'
    go_simp
    with_reducible rfl
  rotate_left
  · simp only [Act.put, List.setIfInBounds_toArray, List.set_cons_zero, List.set_cons_succ, i64_w, i32_w]
    rfl
  refine take_ (i := 12) (N := some 80) (v := ?_) (a' := ?_) (bl 21 6143) rfl rfl (by kernel_rfl) (fun _ _ _ h => h) (Or.inl ⟨by rfl, ?_⟩) hHeld ?_ ?_
  rotate_left
  · rintro w' ⟨s0, s1, s2, s3⟩
    go_simp
    with_reducible rfl
  rotate_left
  · simp only [Act.put, List.setIfInBounds_toArray, List.set_cons_zero, List.set_cons_succ, i64_w, i32_w]
    rfl
  refine one_ (i := 11) (N := some 79) (bl 21 8191) rfl rfl (by kernel_rfl) (by decide) (fun K hK => ?_)
  refine goes_ Try.func33 (by kernel_rfl) rfl #[] (by rfl) rfl rfl (by (try simp only [List.map_toArray, List.map_cons, List.map_nil]); first | done | rfl) ?_
  with_reducible refine (empty_c _).mono ?_
  rintro e wv15 ⟨rfl, hb⟩
  refine ⟨_, rfl, ?_⟩
  have HN := Aside0.mk (HB.out.step hb)
  clear HB
  have HB := HN
  clear HN
  clear hb
  refine hK.out _ _ ⟨HB.out.c0 0 rfl, HB.out.c1 0 rfl, HB.out.c0 1 rfl, HB.out.c1 1 rfl⟩ (fun hHeld => ?_)
  clear hK K
  refine norm_ (a' := ?_) ?_ ?_
  rotate_left
  · show Act.put _ (some 79) _ = _
    simp only [Act.put, List.setIfInBounds_toArray, List.set_cons_zero, List.set_cons_succ, i64_w, i32_w]
    rfl
  refine one_ (i := 13) (N := some 81) (bl 21 16383) rfl rfl (by kernel_rfl) (by decide) (fun K hK => ?_)
  refine goes_ Try.func29 (by kernel_rfl) rfl #[.agg #[.int .i32 1, .int .i32 0], .agg #[.int .i32 a, .int .i32 b]] (by rfl) rfl rfl (by (try simp only [List.map_toArray, List.map_cons, List.map_nil]); first | done | rfl) ?_
  with_reducible refine (within_c 1 0 a b true hex.out _).mono ?_
  rintro e wv16 ⟨rfl, hb⟩
  refine ⟨_, rfl, ?_⟩
  have HN := Aside0.mk (HB.out.step hb)
  clear HB
  have HB := HN
  clear HN
  clear hb
  refine hK.out _ _ ⟨HB.out.c0 0 rfl, HB.out.c1 0 rfl, HB.out.c0 1 rfl, HB.out.c1 1 rfl⟩ (fun hHeld => ?_)
  clear hK K
  refine norm_ (a' := ?_) ?_ ?_
  rotate_left
  · show Act.put _ (some 81) _ = _
    simp only [Act.put, List.setIfInBounds_toArray, List.set_cons_zero, List.set_cons_succ, i64_w, i32_w]
    rfl
  refine pure_ (i := 14) (N := some 82) (v := ?_) (a' := ?_) (bl 21 32767) rfl rfl (by kernel_rfl) (fun _ _ _ h => h) (Or.inl ⟨by rfl, ?_⟩) ?_ ?_
  rotate_left
  · intro w'
    go_simp
    with_reducible rfl
  rotate_left
  · simp only [Act.put, List.setIfInBounds_toArray, List.set_cons_zero, List.set_cons_succ, i64_w, i32_w]
    rfl
  refine pure_ (i := 15) (N := some 83) (v := ?_) (a' := ?_) (bl 21 65535) rfl rfl (by kernel_rfl) (fun _ _ _ h => h) (Or.inl ⟨by rfl, ?_⟩) ?_ ?_
  rotate_left
  · intro w'
    go_simp
    with_reducible rfl
  rotate_left
  · simp only [Act.put, List.setIfInBounds_toArray, List.set_cons_zero, List.set_cons_succ, i64_w, i32_w]
    rfl
  refine take_ (i := 16) (N := some 84) (v := ?_) (a' := ?_) (bl 21 131071) rfl rfl (by kernel_rfl) (fun _ _ _ h => h) (Or.inl ⟨by rfl, ?_⟩) hHeld ?_ ?_
  rotate_left
  · rintro w' ⟨s0, s1, s2, s3⟩
    go_simp
    with_reducible rfl
  rotate_left
  · simp only [Act.put, List.setIfInBounds_toArray, List.set_cons_zero, List.set_cons_succ, i64_w, i32_w]
    rfl
  refine one_ (i := 17) (N := some 85) (bl 21 262143) rfl rfl (by kernel_rfl) (by decide) (fun K hK => ?_)
  refine goes_ Try.func42 (by kernel_rfl) rfl #[] (by rfl) rfl rfl (by (try simp only [List.map_toArray, List.map_cons, List.map_nil]); first | done | rfl) ?_
  with_reducible refine (full_c _).mono ?_
  rintro e wv17 ⟨rfl, hb⟩
  refine ⟨_, rfl, ?_⟩
  have HN := Aside0.mk (HB.out.step hb)
  clear HB
  have HB := HN
  clear HN
  clear hb
  refine hK.out _ _ ⟨HB.out.c0 0 rfl, HB.out.c1 0 rfl, HB.out.c0 1 rfl, HB.out.c1 1 rfl⟩ (fun hHeld => ?_)
  clear hK K
  refine norm_ (a' := ?_) ?_ ?_
  rotate_left
  · show Act.put _ (some 85) _ = _
    simp only [Act.put, List.setIfInBounds_toArray, List.set_cons_zero, List.set_cons_succ, i64_w, i32_w]
    rfl
  refine one_ (i := 18) (N := some 86) (bl 21 524287) rfl rfl (by kernel_rfl) (by decide) (fun K hK => ?_)
  refine goes_ Try.func29 (by kernel_rfl) rfl #[.agg #[.int .i32 a, .int .i32 b], .agg #[.int .i32 (-2147483648), .int .i32 2147483647]] (by rfl) rfl rfl (by (try simp only [List.map_toArray, List.map_cons, List.map_nil]); first | done | rfl) ?_
  with_reducible refine (within_c a b (-2147483648) 2147483647 true hxf.out _).mono ?_
  rintro e wv18 ⟨rfl, hb⟩
  refine ⟨_, rfl, ?_⟩
  have HN := Aside0.mk (HB.out.step hb)
  clear HB
  have HB := HN
  clear HN
  clear hb
  refine hK.out _ _ ⟨HB.out.c0 0 rfl, HB.out.c1 0 rfl, HB.out.c0 1 rfl, HB.out.c1 1 rfl⟩ (fun hHeld => ?_)
  clear hK K
  refine norm_ (a' := ?_) ?_ ?_
  rotate_left
  · show Act.put _ (some 86) _ = _
    simp only [Act.put, List.setIfInBounds_toArray, List.set_cons_zero, List.set_cons_succ, i64_w, i32_w]
    rfl
  refine pure_ (i := 19) (N := some 87) (v := ?_) (a' := ?_) (bl 21 1048575) rfl rfl (by kernel_rfl) (fun _ _ _ h => h) (Or.inl ⟨by rfl, ?_⟩) ?_ ?_
  rotate_left
  · intro w'
    go_simp
    with_reducible rfl
  rotate_left
  · simp only [Act.put, List.setIfInBounds_toArray, List.set_cons_zero, List.set_cons_succ, i64_w, i32_w]
    rfl
  refine pure_ (i := 20) (N := some 6) (v := ?_) (a' := ?_) (bl 21 2097151) rfl rfl (by kernel_rfl) (fun _ _ _ h => h) (Or.inl ⟨by rfl, ?_⟩) ?_ ?_
  rotate_left
  · intro w'
    go_simp
    with_reducible rfl
  rotate_left
  · simp only [Act.put, List.setIfInBounds_toArray, List.set_cons_zero, List.set_cons_succ, i64_w, i32_w]
    rfl
  refine done_ (by kernel_rfl) ?_
  have C := HB.out.cl
  simp only [Cl, and_true] at C
  obtain ⟨_, _, _, _, _, _, _, _⟩ := C
  go_wp2_with fail
  go_ret
  exact ⟨by first | rfl | (simp; done) | (simp [*]; done), HB.out.below⟩

set_option maxHeartbeats 4000000 in
set_option maxRecDepth 100000 in
theorem walk1 (a b c d n : Int) (h1 : Bool) (H1 : Aside0 (hasv a b n = h1)) (he : Aside0 (decide (b < a) = false)) (hl : decide (b < a) = false) (hw : Aside0 (within a b c d = false)) (hxx : Aside0 (within a b a b = true)) (hex : Aside0 (within 1 0 a b = true)) (hxf : Aside0 (within a b (-2147483648) 2147483647 = true)) (hf : Aside0 (hasv (-2147483648) 2147483647 n = true)) (hem : Aside0 (hasv 1 0 n = false)) (k1 : Aside0 (hasv c d a = false)) (w : World) : Calls Try.prog 18 #[.agg #[.int .i32 a, .int .i32 b], .agg #[.int .i32 c, .int .i32 d], .int .i32 n] w fun e w' => e = .returned (.bool true) ∧ Below w.heap.size w w' := by
  have hu38 := Try.underlying38
  go_enter Try.func18, Try.ntmps18
  go_upto_region 1 with (fail)
  have HB := Aside0.mk (Bx.start2 w a b c d)
  generalize World.alloc (World.alloc w _) _ = w0 at HB ⊢
  have C := HB.out.cl
  simp only [Cl, and_true] at C
  obtain ⟨_, _, _, _, _, _, _, _⟩ := C
  go_wp2_with fail
  (with_reducible refine (awake_c _).mono ?_); rintro e wv1 ⟨rfl, hb⟩
  have HN := Aside0.mk (HB.out.step hb)
  clear HB
  have HB := HN
  clear HN
  clear hb
  have C := HB.out.cl
  simp only [Cl, and_true] at C
  obtain ⟨_, _, _, _, _, _, _, _⟩ := C
  go_wp2_with fail
  (with_reducible refine (of_c n _).mono ?_); rintro e wv2 ⟨rfl, hb⟩
  have HN := Aside0.mk (HB.out.step hb)
  clear HB
  have HB := HN
  clear HN
  clear hb
  have C := HB.out.cl
  simp only [Cl, and_true] at C
  obtain ⟨_, _, _, _, _, _, _, _⟩ := C
  go_wp2_with fail
  (with_reducible refine (full_c _).mono ?_); rintro e wv3 ⟨rfl, hb⟩
  have HN := Aside0.mk (HB.out.step hb)
  clear HB
  have HB := HN
  clear HN
  clear hb
  have C := HB.out.cl
  simp only [Cl, and_true] at C
  obtain ⟨_, _, _, _, _, _, _, _⟩ := C
  go_wp2_with fail
  (with_reducible refine (contains_c (-2147483648) 2147483647 n true hf.out _).mono ?_); rintro e wv4 ⟨rfl, hb⟩
  have HN := Aside0.mk (HB.out.step hb)
  clear HB
  have HB := HN
  clear HN
  clear hb
  have C := HB.out.cl
  simp only [Cl, and_true] at C
  obtain ⟨_, _, _, _, _, _, _, _⟩ := C
  go_wp2_with fail
  (with_reducible refine (empty_c _).mono ?_); rintro e wv5 ⟨rfl, hb⟩
  have HN := Aside0.mk (HB.out.step hb)
  clear HB
  have HB := HN
  clear HN
  clear hb
  have C := HB.out.cl
  simp only [Cl, and_true] at C
  obtain ⟨_, _, _, _, _, _, _, _⟩ := C
  go_wp2_with fail
  (with_reducible refine (contains_c 1 0 n false hem.out _).mono ?_); rintro e wv6 ⟨rfl, hb⟩
  have HN := Aside0.mk (HB.out.step hb)
  clear HB
  have HB := HN
  clear HN
  clear hb
  have C := HB.out.cl
  simp only [Cl, and_true] at C
  obtain ⟨_, _, _, _, _, _, _, _⟩ := C
  go_wp2_with fail
  (with_reducible refine (empty_c _).mono ?_); rintro e wv7 ⟨rfl, hb⟩
  have HN := Aside0.mk (HB.out.step hb)
  clear HB
  have HB := HN
  clear HN
  clear hb
  have C := HB.out.cl
  simp only [Cl, and_true] at C
  obtain ⟨_, _, _, _, _, _, _, _⟩ := C
  go_wp2_with fail
  have HN := Aside0.mk (HB.out.drew)
  clear HB
  have HB := HN
  clear HN
  refine start_ (n := 17) (S := fun w' => w'.cell? ⟨w.heap.size, 0, none⟩ = some (.int .i32 a) ∧ w'.cell? ⟨w.heap.size, 1, none⟩ = some (.int .i32 b)) (ds := []) #[false, false, false, false, false, false, false, false, false, false, false, false, false, false, false, false, false] (by kernel_rfl) rfl rfl ⟨HB.out.c0 0 rfl, HB.out.c1 0 rfl⟩ (fun hHeld => ?_)
  generalize wv7.drew = wv8 at HB hHeld ⊢
  refine pure_ (i := 1) (N := some 35) (v := ?_) (a' := ?_) (bl 17 2) rfl rfl (by kernel_rfl) (fun _ _ _ h => h) (Or.inl ⟨by rfl, ?_⟩) ?_ ?_
  rotate_left
  · intro w'
    go_simp
    with_reducible rfl
  rotate_left
  · simp only [Act.put, List.setIfInBounds_toArray, List.set_cons_zero, List.set_cons_succ, i64_w, i32_w]
    rfl
  refine pure_ (i := 4) (N := some 38) (v := ?_) (a' := ?_) (bl 17 18) rfl rfl (by kernel_rfl) (fun _ _ _ h => h) (Or.inl ⟨by rfl, ?_⟩) ?_ ?_
  rotate_left
  · intro w'
    go_simp
    with_reducible rfl
  rotate_left
  · simp only [Act.put, List.setIfInBounds_toArray, List.set_cons_zero, List.set_cons_succ, i64_w, i32_w]
    rfl
  refine take_ (i := 0) (N := some 34) (v := ?_) (a' := ?_) (bl 17 19) rfl rfl (by kernel_rfl) (fun _ _ _ h => h) (Or.inl ⟨by rfl, ?_⟩) hHeld ?_ ?_
  rotate_left
  · rintro w' ⟨s0, s1⟩
    go_simp
    with_reducible rfl
  rotate_left
  · simp only [Act.put, List.setIfInBounds_toArray, List.set_cons_zero, List.set_cons_succ, i64_w, i32_w]
    rfl
  refine take_ (i := 3) (N := some 37) (v := ?_) (a' := ?_) (bl 17 27) rfl rfl (by kernel_rfl) (fun _ _ _ h => h) (Or.inl ⟨by rfl, ?_⟩) hHeld ?_ ?_
  rotate_left
  · rintro w' ⟨s0, s1⟩
    go_simp
    with_reducible rfl
  rotate_left
  · simp only [Act.put, List.setIfInBounds_toArray, List.set_cons_zero, List.set_cons_succ, i64_w, i32_w]
    rfl
  refine one_ (i := 2) (N := some 36) (bl 17 31) rfl rfl (by kernel_rfl) (by decide) (fun K hK => ?_)
  refine goes_ Try.func30 (by kernel_rfl) rfl #[.agg #[.int .i32 a, .int .i32 b], .int .i32 n] (by rfl) rfl rfl (by (try simp only [List.map_toArray, List.map_cons, List.map_nil]); first | done | rfl) ?_
  with_reducible refine (contains_c a b n h1 H1.out _).mono ?_
  rintro e wv9 ⟨rfl, hb⟩
  refine ⟨_, rfl, ?_⟩
  have HN := Aside0.mk (HB.out.step hb)
  clear HB
  have HB := HN
  clear HN
  clear hb
  refine hK.out _ _ ⟨HB.out.c0 0 rfl, HB.out.c1 0 rfl⟩ (fun hHeld => ?_)
  clear hK K
  refine norm_ (a' := ?_) ?_ ?_
  rotate_left
  · show Act.put _ (some 36) _ = _
    simp only [Act.put, List.setIfInBounds_toArray, List.set_cons_zero, List.set_cons_succ, i64_w, i32_w]
    rfl
  refine one_ (i := 5) (N := some 39) (bl 17 63) rfl rfl (by kernel_rfl) (by decide) (fun K hK => ?_)
  refine goes_ Try.func31 (by kernel_rfl) rfl #[.agg #[.int .i32 a, .int .i32 b], .int .i32 n] (by rfl) rfl rfl (by (try simp only [List.map_toArray, List.map_cons, List.map_nil]); first | done | rfl) ?_
  with_reducible refine (has_c a b n h1 H1.out _).mono ?_
  rintro e wv10 ⟨rfl, hb⟩
  refine ⟨_, rfl, ?_⟩
  have HN := Aside0.mk (HB.out.step hb)
  clear HB
  have HB := HN
  clear HN
  clear hb
  refine hK.out _ _ ⟨HB.out.c0 0 rfl, HB.out.c1 0 rfl⟩ (fun hHeld => ?_)
  clear hK K
  refine norm_ (a' := ?_) ?_ ?_
  rotate_left
  · show Act.put _ (some 39) _ = _
    simp only [Act.put, List.setIfInBounds_toArray, List.set_cons_zero, List.set_cons_succ, i64_w, i32_w]
    rfl
  refine pure_ (i := 6) (N := some 40) (v := ?_) (a' := ?_) (bl 17 127) rfl rfl (by kernel_rfl) (fun _ _ _ h => h) (Or.inl ⟨by rfl, ?_⟩) ?_ ?_
  rotate_left
  · intro w'
    go_simp
    with_reducible rfl
  rotate_left
  · simp only [Act.put, List.setIfInBounds_toArray, List.set_cons_zero, List.set_cons_succ, i64_w, i32_w]
    rfl
  refine pure_ (i := 7) (N := some 41) (v := ?_) (a' := ?_) (bl 17 255) rfl rfl (by kernel_rfl) (fun _ _ _ h => h) (Or.inl ⟨by rfl, ?_⟩) ?_ ?_
  rotate_left
  · intro w'
    go_simp
    with_reducible rfl
  rotate_left
  · simp only [Act.put, List.setIfInBounds_toArray, List.set_cons_zero, List.set_cons_succ, i64_w, i32_w]
    rfl
  refine pure_ (i := 10) (N := some 44) (v := ?_) (a' := ?_) (bl 17 1279) rfl rfl (by kernel_rfl) (fun _ _ _ h => h) (Or.inl ⟨by rfl, ?_⟩) ?_ ?_
  rotate_left
  · intro w'
    go_simp
    with_reducible rfl
  rotate_left
  · simp only [Act.put, List.setIfInBounds_toArray, List.set_cons_zero, List.set_cons_succ, i64_w, i32_w]
    rfl
  refine pure_ (i := 12) (N := some 46) (v := ?_) (a' := ?_) (bl 17 5375) rfl rfl (by kernel_rfl) (fun _ _ _ h => h) (Or.inl ⟨by rfl, ?_⟩) ?_ ?_
  rotate_left
  · intro w'
    go_simp
    with_reducible rfl
  rotate_left
  · simp only [Act.put, List.setIfInBounds_toArray, List.set_cons_zero, List.set_cons_succ, i64_w, i32_w]
    rfl
  refine take_ (i := 8) (N := some 42) (v := ?_) (a' := ?_) (bl 17 5631) rfl rfl (by kernel_rfl) (fun _ _ _ h => h) (Or.inl ⟨by rfl, ?_⟩) hHeld ?_ ?_
  rotate_left
  · rintro w' ⟨s0, s1⟩
    go_simp
    with_reducible rfl
  rotate_left
  · simp only [Act.put, List.setIfInBounds_toArray, List.set_cons_zero, List.set_cons_succ, i64_w, i32_w]
    rfl
  refine take_ (i := 11) (N := some 45) (v := ?_) (a' := ?_) (bl 17 7679) rfl rfl (by kernel_rfl) (fun _ _ _ h => h) (Or.inl ⟨by rfl, ?_⟩) hHeld ?_ ?_
  rotate_left
  · rintro w' ⟨s0, s1⟩
    go_simp
    with_reducible rfl
  rotate_left
  · simp only [Act.put, List.setIfInBounds_toArray, List.set_cons_zero, List.set_cons_succ, i64_w, i32_w]
    rfl
  refine take_ (i := 13) (N := some 47) (v := ?_) (a' := ?_) (bl 17 15871) rfl rfl (by kernel_rfl) (fun _ _ _ h => h) (Or.inl ⟨by rfl, ?_⟩) hHeld ?_ ?_
  rotate_left
  · rintro w' ⟨s0, s1⟩
    go_simp
    with_reducible rfl
  rotate_left
  · simp only [Act.put, List.setIfInBounds_toArray, List.set_cons_zero, List.set_cons_succ, i64_w, i32_w]
    rfl
  refine pure_ (i := 14) (N := some 48) (v := ?_) (a' := ?_) (bl 17 32255) rfl rfl (by kernel_rfl) (fun _ _ _ h => h) (Or.inl ⟨by rfl, ?_⟩) ?_ ?_
  rotate_left
  · intro w'
    go_simp
    with_reducible rfl
  rotate_left
  · simp only [Act.put, List.setIfInBounds_toArray, List.set_cons_zero, List.set_cons_succ, i64_w, i32_w]
    rfl
  refine one_ (i := 9) (N := some 43) (bl 17 32767) rfl rfl (by kernel_rfl) (by decide) (fun K hK => ?_)
  refine goes_ Try.func32 (by kernel_rfl) rfl #[.agg #[.int .i32 a, .int .i32 b]] (by rfl) rfl rfl (by (try simp only [List.map_toArray, List.map_cons, List.map_nil]); first | done | rfl) ?_
  with_reducible refine (isE_c a b false he.out _).mono ?_
  rintro e wv11 ⟨rfl, hb⟩
  refine ⟨_, rfl, ?_⟩
  have HN := Aside0.mk (HB.out.step hb)
  clear HB
  have HB := HN
  clear HN
  clear hb
  refine hK.out _ _ ⟨HB.out.c0 0 rfl, HB.out.c1 0 rfl⟩ (fun hHeld => ?_)
  clear hK K
  refine norm_ (a' := ?_) ?_ ?_
  rotate_left
  · show Act.put _ (some 43) _ = _
    simp only [Act.put, List.setIfInBounds_toArray, List.set_cons_zero, List.set_cons_succ, i64_w, i32_w]
    rfl
  refine pure_ (i := 15) (N := some 49) (v := ?_) (a' := ?_) (bl 17 65535) rfl rfl (by kernel_rfl) (fun _ _ _ h => h) (Or.inl ⟨by rfl, ?_⟩) ?_ ?_
  rotate_left
  · intro w'
    go_simp
    with_reducible rfl
  rotate_left
  · simp only [Act.put, List.setIfInBounds_toArray, List.set_cons_zero, List.set_cons_succ, i64_w, i32_w]
    rfl
  refine pure_ (i := 16) (N := some 50) (v := ?_) (a' := ?_) (bl 17 131071) rfl rfl (by kernel_rfl) (fun _ _ _ h => h) (Or.inl ⟨by rfl, ?_⟩) ?_ ?_
  rotate_left
  · intro w'
    go_simp
    with_reducible rfl
  rotate_left
  · simp only [Act.put, List.setIfInBounds_toArray, List.set_cons_zero, List.set_cons_succ, i64_w, i32_w]
    rfl
  refine done_ (by kernel_rfl) ?_
  have C := HB.out.cl
  simp only [Cl, and_true] at C
  obtain ⟨_, _, _, _, _, _, _, _⟩ := C
  go_wp2_with fail
  (with_reducible refine (has_c c d a false k1.out _).mono ?_); rintro e wv12 ⟨rfl, hb⟩
  have HN := Aside0.mk (HB.out.step hb)
  clear HB
  have HB := HN
  clear HN
  clear hb
  have C := HB.out.cl
  simp only [Cl, and_true] at C
  obtain ⟨_, _, _, _, _, _, _, _⟩ := C
  go_wp2_with fail
  have HN := Aside0.mk (HB.out.drew)
  clear HB
  have HB := HN
  clear HN
  refine start_ (n := 21) (S := fun w' => w'.cell? ⟨w.heap.size, 0, none⟩ = some (.int .i32 a) ∧ w'.cell? ⟨w.heap.size, 1, none⟩ = some (.int .i32 b) ∧ w'.cell? ⟨w.heap.size + 1, 0, none⟩ = some (.int .i32 c) ∧ w'.cell? ⟨w.heap.size + 1, 1, none⟩ = some (.int .i32 d)) (ds := []) #[false, false, false, false, false, false, false, false, false, false, false, false, false, false, false, false, false, false, false, false, false] (by kernel_rfl) rfl rfl ⟨HB.out.c0 0 rfl, HB.out.c1 0 rfl, HB.out.c0 1 rfl, HB.out.c1 1 rfl⟩ (fun hHeld => ?_)
  generalize wv12.drew = wv13 at HB hHeld ⊢
  refine pure_ (i := 3) (N := some 71) (v := ?_) (a' := ?_) (bl 21 8) rfl rfl (by kernel_rfl) (fun _ _ _ h => h) (Or.inl ⟨by rfl, ?_⟩) ?_ ?_
  rotate_left
  · intro w'
    go_simp
    with_reducible rfl
  rotate_left
  · simp only [Act.put, List.setIfInBounds_toArray, List.set_cons_zero, List.set_cons_succ, i64_w, i32_w]
    rfl
  refine take_ (i := 0) (N := some 68) (v := ?_) (a' := ?_) (bl 21 9) rfl rfl (by kernel_rfl) (fun _ _ _ h => h) (Or.inl ⟨by rfl, ?_⟩) hHeld ?_ ?_
  rotate_left
  · rintro w' ⟨s0, s1, s2, s3⟩
    go_simp
    with_reducible rfl
  rotate_left
  · simp only [Act.put, List.setIfInBounds_toArray, List.set_cons_zero, List.set_cons_succ, i64_w, i32_w]
    rfl
  refine take_ (i := 1) (N := some 69) (v := ?_) (a' := ?_) (bl 21 11) rfl rfl (by kernel_rfl) (fun _ _ _ h => h) (Or.inl ⟨by rfl, ?_⟩) hHeld ?_ ?_
  rotate_left
  · rintro w' ⟨s0, s1, s2, s3⟩
    go_simp
    with_reducible rfl
  rotate_left
  · simp only [Act.put, List.setIfInBounds_toArray, List.set_cons_zero, List.set_cons_succ, i64_w, i32_w]
    rfl
  refine one_ (i := 2) (N := some 70) (bl 21 15) rfl rfl (by kernel_rfl) (by decide) (fun K hK => ?_)
  refine goes_ Try.func29 (by kernel_rfl) rfl #[.agg #[.int .i32 a, .int .i32 b], .agg #[.int .i32 c, .int .i32 d]] (by rfl) rfl rfl (by (try simp only [List.map_toArray, List.map_cons, List.map_nil]); first | done | rfl) ?_
  with_reducible refine (within_c a b c d false hw.out _).mono ?_
  rintro e wv14 ⟨rfl, hb⟩
  refine ⟨_, rfl, ?_⟩
  have HN := Aside0.mk (HB.out.step hb)
  clear HB
  have HB := HN
  clear HN
  clear hb
  refine hK.out _ _ ⟨HB.out.c0 0 rfl, HB.out.c1 0 rfl, HB.out.c0 1 rfl, HB.out.c1 1 rfl⟩ (fun hHeld => ?_)
  clear hK K
  refine norm_ (a' := ?_) ?_ ?_
  rotate_left
  · show Act.put _ (some 70) _ = _
    simp only [Act.put, List.setIfInBounds_toArray, List.set_cons_zero, List.set_cons_succ, i64_w, i32_w]
    rfl
  refine pure_ (i := 4) (N := some 72) (v := ?_) (a' := ?_) (bl 21 31) rfl rfl (by kernel_rfl) (fun _ _ _ h => h) (Or.inl ⟨by rfl, ?_⟩) ?_ ?_
  rotate_left
  · intro w'
    go_simp
    with_reducible rfl
  rotate_left
  · simp only [Act.put, List.setIfInBounds_toArray, List.set_cons_zero, List.set_cons_succ, i64_w, i32_w]
    rfl
  refine pure_ (i := 5) (N := some 73) (v := ?_) (a' := ?_) (bl 21 63) rfl rfl (by kernel_rfl) (fun _ _ _ h => h) (Or.inl ⟨by rfl, ?_⟩) ?_ ?_
  rotate_left
  · intro w'
    go_simp
    with_reducible rfl
  rotate_left
  · simp only [Act.put, List.setIfInBounds_toArray, List.set_cons_zero, List.set_cons_succ, i64_w, i32_w]
    rfl
  refine take_ (i := 6) (N := some 74) (v := ?_) (a' := ?_) (bl 21 127) rfl rfl (by kernel_rfl) (fun _ _ _ h => h) (Or.inl ⟨by rfl, ?_⟩) hHeld ?_ ?_
  rotate_left
  · rintro w' ⟨s0, s1, s2, s3⟩
    go_simp
    with_reducible rfl
  rotate_left
  · simp only [Act.put, List.setIfInBounds_toArray, List.set_cons_zero, List.set_cons_succ, i64_w, i32_w]
    rfl
  refine take_ (i := 7) (N := some 75) (v := ?_) (a' := ?_) (bl 21 255) rfl rfl (by kernel_rfl) (fun _ _ _ h => h) (Or.inl ⟨by rfl, ?_⟩) hHeld ?_ ?_
  rotate_left
  · rintro w' ⟨s0, s1, s2, s3⟩
    go_simp
    with_reducible rfl
  rotate_left
  · simp only [Act.put, List.setIfInBounds_toArray, List.set_cons_zero, List.set_cons_succ, i64_w, i32_w]
    rfl
  refine one_ (i := 8) (N := some 76) (bl 21 511) rfl rfl (by kernel_rfl) (by decide) (fun K hK => ?_)
  refine goes_ Try.func29 (by kernel_rfl) rfl #[.agg #[.int .i32 a, .int .i32 b], .agg #[.int .i32 a, .int .i32 b]] (by rfl) rfl rfl (by (try simp only [List.map_toArray, List.map_cons, List.map_nil]); first | done | rfl) ?_
  with_reducible refine (within_c a b a b true hxx.out _).mono ?_
  rintro e wv15 ⟨rfl, hb⟩
  refine ⟨_, rfl, ?_⟩
  have HN := Aside0.mk (HB.out.step hb)
  clear HB
  have HB := HN
  clear HN
  clear hb
  refine hK.out _ _ ⟨HB.out.c0 0 rfl, HB.out.c1 0 rfl, HB.out.c0 1 rfl, HB.out.c1 1 rfl⟩ (fun hHeld => ?_)
  clear hK K
  refine norm_ (a' := ?_) ?_ ?_
  rotate_left
  · show Act.put _ (some 76) _ = _
    simp only [Act.put, List.setIfInBounds_toArray, List.set_cons_zero, List.set_cons_succ, i64_w, i32_w]
    rfl
  refine pure_ (i := 9) (N := some 77) (v := ?_) (a' := ?_) (bl 21 1023) rfl rfl (by kernel_rfl) (fun _ _ _ h => h) (Or.inl ⟨by rfl, ?_⟩) ?_ ?_
  rotate_left
  · intro w'
    go_simp
    with_reducible rfl
  rotate_left
  · simp only [Act.put, List.setIfInBounds_toArray, List.set_cons_zero, List.set_cons_succ, i64_w, i32_w]
    rfl
  refine pure_ (i := 10) (N := some 78) (v := ?_) (a' := ?_) (bl 21 2047) rfl rfl (by kernel_rfl) (fun _ _ _ h => h) (Or.inl ⟨by rfl, ?_⟩) ?_ ?_
  rotate_left
  · intro w'
    go_simp
    with_reducible rfl
  rotate_left
  · simp only [Act.put, List.setIfInBounds_toArray, List.set_cons_zero, List.set_cons_succ, i64_w, i32_w]
    rfl
  refine take_ (i := 12) (N := some 80) (v := ?_) (a' := ?_) (bl 21 6143) rfl rfl (by kernel_rfl) (fun _ _ _ h => h) (Or.inl ⟨by rfl, ?_⟩) hHeld ?_ ?_
  rotate_left
  · rintro w' ⟨s0, s1, s2, s3⟩
    go_simp
    with_reducible rfl
  rotate_left
  · simp only [Act.put, List.setIfInBounds_toArray, List.set_cons_zero, List.set_cons_succ, i64_w, i32_w]
    rfl
  refine one_ (i := 11) (N := some 79) (bl 21 8191) rfl rfl (by kernel_rfl) (by decide) (fun K hK => ?_)
  refine goes_ Try.func33 (by kernel_rfl) rfl #[] (by rfl) rfl rfl (by (try simp only [List.map_toArray, List.map_cons, List.map_nil]); first | done | rfl) ?_
  with_reducible refine (empty_c _).mono ?_
  rintro e wv16 ⟨rfl, hb⟩
  refine ⟨_, rfl, ?_⟩
  have HN := Aside0.mk (HB.out.step hb)
  clear HB
  have HB := HN
  clear HN
  clear hb
  refine hK.out _ _ ⟨HB.out.c0 0 rfl, HB.out.c1 0 rfl, HB.out.c0 1 rfl, HB.out.c1 1 rfl⟩ (fun hHeld => ?_)
  clear hK K
  refine norm_ (a' := ?_) ?_ ?_
  rotate_left
  · show Act.put _ (some 79) _ = _
    simp only [Act.put, List.setIfInBounds_toArray, List.set_cons_zero, List.set_cons_succ, i64_w, i32_w]
    rfl
  refine one_ (i := 13) (N := some 81) (bl 21 16383) rfl rfl (by kernel_rfl) (by decide) (fun K hK => ?_)
  refine goes_ Try.func29 (by kernel_rfl) rfl #[.agg #[.int .i32 1, .int .i32 0], .agg #[.int .i32 a, .int .i32 b]] (by rfl) rfl rfl (by (try simp only [List.map_toArray, List.map_cons, List.map_nil]); first | done | rfl) ?_
  with_reducible refine (within_c 1 0 a b true hex.out _).mono ?_
  rintro e wv17 ⟨rfl, hb⟩
  refine ⟨_, rfl, ?_⟩
  have HN := Aside0.mk (HB.out.step hb)
  clear HB
  have HB := HN
  clear HN
  clear hb
  refine hK.out _ _ ⟨HB.out.c0 0 rfl, HB.out.c1 0 rfl, HB.out.c0 1 rfl, HB.out.c1 1 rfl⟩ (fun hHeld => ?_)
  clear hK K
  refine norm_ (a' := ?_) ?_ ?_
  rotate_left
  · show Act.put _ (some 81) _ = _
    simp only [Act.put, List.setIfInBounds_toArray, List.set_cons_zero, List.set_cons_succ, i64_w, i32_w]
    rfl
  refine pure_ (i := 14) (N := some 82) (v := ?_) (a' := ?_) (bl 21 32767) rfl rfl (by kernel_rfl) (fun _ _ _ h => h) (Or.inl ⟨by rfl, ?_⟩) ?_ ?_
  rotate_left
  · intro w'
    go_simp
    with_reducible rfl
  rotate_left
  · simp only [Act.put, List.setIfInBounds_toArray, List.set_cons_zero, List.set_cons_succ, i64_w, i32_w]
    rfl
  refine pure_ (i := 15) (N := some 83) (v := ?_) (a' := ?_) (bl 21 65535) rfl rfl (by kernel_rfl) (fun _ _ _ h => h) (Or.inl ⟨by rfl, ?_⟩) ?_ ?_
  rotate_left
  · intro w'
    go_simp
    with_reducible rfl
  rotate_left
  · simp only [Act.put, List.setIfInBounds_toArray, List.set_cons_zero, List.set_cons_succ, i64_w, i32_w]
    rfl
  refine take_ (i := 16) (N := some 84) (v := ?_) (a' := ?_) (bl 21 131071) rfl rfl (by kernel_rfl) (fun _ _ _ h => h) (Or.inl ⟨by rfl, ?_⟩) hHeld ?_ ?_
  rotate_left
  · rintro w' ⟨s0, s1, s2, s3⟩
    go_simp
    with_reducible rfl
  rotate_left
  · simp only [Act.put, List.setIfInBounds_toArray, List.set_cons_zero, List.set_cons_succ, i64_w, i32_w]
    rfl
  refine one_ (i := 17) (N := some 85) (bl 21 262143) rfl rfl (by kernel_rfl) (by decide) (fun K hK => ?_)
  refine goes_ Try.func42 (by kernel_rfl) rfl #[] (by rfl) rfl rfl (by (try simp only [List.map_toArray, List.map_cons, List.map_nil]); first | done | rfl) ?_
  with_reducible refine (full_c _).mono ?_
  rintro e wv18 ⟨rfl, hb⟩
  refine ⟨_, rfl, ?_⟩
  have HN := Aside0.mk (HB.out.step hb)
  clear HB
  have HB := HN
  clear HN
  clear hb
  refine hK.out _ _ ⟨HB.out.c0 0 rfl, HB.out.c1 0 rfl, HB.out.c0 1 rfl, HB.out.c1 1 rfl⟩ (fun hHeld => ?_)
  clear hK K
  refine norm_ (a' := ?_) ?_ ?_
  rotate_left
  · show Act.put _ (some 85) _ = _
    simp only [Act.put, List.setIfInBounds_toArray, List.set_cons_zero, List.set_cons_succ, i64_w, i32_w]
    rfl
  refine one_ (i := 18) (N := some 86) (bl 21 524287) rfl rfl (by kernel_rfl) (by decide) (fun K hK => ?_)
  refine goes_ Try.func29 (by kernel_rfl) rfl #[.agg #[.int .i32 a, .int .i32 b], .agg #[.int .i32 (-2147483648), .int .i32 2147483647]] (by rfl) rfl rfl (by (try simp only [List.map_toArray, List.map_cons, List.map_nil]); first | done | rfl) ?_
  with_reducible refine (within_c a b (-2147483648) 2147483647 true hxf.out _).mono ?_
  rintro e wv19 ⟨rfl, hb⟩
  refine ⟨_, rfl, ?_⟩
  have HN := Aside0.mk (HB.out.step hb)
  clear HB
  have HB := HN
  clear HN
  clear hb
  refine hK.out _ _ ⟨HB.out.c0 0 rfl, HB.out.c1 0 rfl, HB.out.c0 1 rfl, HB.out.c1 1 rfl⟩ (fun hHeld => ?_)
  clear hK K
  refine norm_ (a' := ?_) ?_ ?_
  rotate_left
  · show Act.put _ (some 86) _ = _
    simp only [Act.put, List.setIfInBounds_toArray, List.set_cons_zero, List.set_cons_succ, i64_w, i32_w]
    rfl
  refine pure_ (i := 19) (N := some 87) (v := ?_) (a' := ?_) (bl 21 1048575) rfl rfl (by kernel_rfl) (fun _ _ _ h => h) (Or.inl ⟨by rfl, ?_⟩) ?_ ?_
  rotate_left
  · intro w'
    go_simp
    with_reducible rfl
  rotate_left
  · simp only [Act.put, List.setIfInBounds_toArray, List.set_cons_zero, List.set_cons_succ, i64_w, i32_w]
    rfl
  refine pure_ (i := 20) (N := some 6) (v := ?_) (a' := ?_) (bl 21 2097151) rfl rfl (by kernel_rfl) (fun _ _ _ h => h) (Or.inl ⟨by rfl, ?_⟩) ?_ ?_
  rotate_left
  · intro w'
    go_simp
    with_reducible rfl
  rotate_left
  · simp only [Act.put, List.setIfInBounds_toArray, List.set_cons_zero, List.set_cons_succ, i64_w, i32_w]
    rfl
  refine done_ (by kernel_rfl) ?_
  have C := HB.out.cl
  simp only [Cl, and_true] at C
  obtain ⟨_, _, _, _, _, _, _, _⟩ := C
  go_wp2_with fail
  go_ret
  exact ⟨by first | rfl | (simp; done) | (simp [*]; done), HB.out.below⟩

set_option maxHeartbeats 4000000 in
set_option maxRecDepth 100000 in
theorem walk2 (a b c d n : Int) (h1 : Bool) (H1 : Aside0 (hasv a b n = h1)) (he : Aside0 (decide (b < a) = false)) (hl : decide (b < a) = false) (hw : Aside0 (within a b c d = false)) (hxx : Aside0 (within a b a b = true)) (hex : Aside0 (within 1 0 a b = true)) (hxf : Aside0 (within a b (-2147483648) 2147483647 = true)) (hf : Aside0 (hasv (-2147483648) 2147483647 n = true)) (hem : Aside0 (hasv 1 0 n = false)) (k1 : Aside0 (hasv c d a = true)) (k2 : Aside0 (hasv c d b = false)) (w : World) : Calls Try.prog 18 #[.agg #[.int .i32 a, .int .i32 b], .agg #[.int .i32 c, .int .i32 d], .int .i32 n] w fun e w' => e = .returned (.bool true) ∧ Below w.heap.size w w' := by
  have hu38 := Try.underlying38
  go_enter Try.func18, Try.ntmps18
  go_upto_region 1 with (fail)
  have HB := Aside0.mk (Bx.start2 w a b c d)
  generalize World.alloc (World.alloc w _) _ = w0 at HB ⊢
  have C := HB.out.cl
  simp only [Cl, and_true] at C
  obtain ⟨_, _, _, _, _, _, _, _⟩ := C
  go_wp2_with fail
  (with_reducible refine (awake_c _).mono ?_); rintro e wv1 ⟨rfl, hb⟩
  have HN := Aside0.mk (HB.out.step hb)
  clear HB
  have HB := HN
  clear HN
  clear hb
  have C := HB.out.cl
  simp only [Cl, and_true] at C
  obtain ⟨_, _, _, _, _, _, _, _⟩ := C
  go_wp2_with fail
  (with_reducible refine (of_c n _).mono ?_); rintro e wv2 ⟨rfl, hb⟩
  have HN := Aside0.mk (HB.out.step hb)
  clear HB
  have HB := HN
  clear HN
  clear hb
  have C := HB.out.cl
  simp only [Cl, and_true] at C
  obtain ⟨_, _, _, _, _, _, _, _⟩ := C
  go_wp2_with fail
  (with_reducible refine (full_c _).mono ?_); rintro e wv3 ⟨rfl, hb⟩
  have HN := Aside0.mk (HB.out.step hb)
  clear HB
  have HB := HN
  clear HN
  clear hb
  have C := HB.out.cl
  simp only [Cl, and_true] at C
  obtain ⟨_, _, _, _, _, _, _, _⟩ := C
  go_wp2_with fail
  (with_reducible refine (contains_c (-2147483648) 2147483647 n true hf.out _).mono ?_); rintro e wv4 ⟨rfl, hb⟩
  have HN := Aside0.mk (HB.out.step hb)
  clear HB
  have HB := HN
  clear HN
  clear hb
  have C := HB.out.cl
  simp only [Cl, and_true] at C
  obtain ⟨_, _, _, _, _, _, _, _⟩ := C
  go_wp2_with fail
  (with_reducible refine (empty_c _).mono ?_); rintro e wv5 ⟨rfl, hb⟩
  have HN := Aside0.mk (HB.out.step hb)
  clear HB
  have HB := HN
  clear HN
  clear hb
  have C := HB.out.cl
  simp only [Cl, and_true] at C
  obtain ⟨_, _, _, _, _, _, _, _⟩ := C
  go_wp2_with fail
  (with_reducible refine (contains_c 1 0 n false hem.out _).mono ?_); rintro e wv6 ⟨rfl, hb⟩
  have HN := Aside0.mk (HB.out.step hb)
  clear HB
  have HB := HN
  clear HN
  clear hb
  have C := HB.out.cl
  simp only [Cl, and_true] at C
  obtain ⟨_, _, _, _, _, _, _, _⟩ := C
  go_wp2_with fail
  (with_reducible refine (empty_c _).mono ?_); rintro e wv7 ⟨rfl, hb⟩
  have HN := Aside0.mk (HB.out.step hb)
  clear HB
  have HB := HN
  clear HN
  clear hb
  have C := HB.out.cl
  simp only [Cl, and_true] at C
  obtain ⟨_, _, _, _, _, _, _, _⟩ := C
  go_wp2_with fail
  have HN := Aside0.mk (HB.out.drew)
  clear HB
  have HB := HN
  clear HN
  refine start_ (n := 17) (S := fun w' => w'.cell? ⟨w.heap.size, 0, none⟩ = some (.int .i32 a) ∧ w'.cell? ⟨w.heap.size, 1, none⟩ = some (.int .i32 b)) (ds := []) #[false, false, false, false, false, false, false, false, false, false, false, false, false, false, false, false, false] (by kernel_rfl) rfl rfl ⟨HB.out.c0 0 rfl, HB.out.c1 0 rfl⟩ (fun hHeld => ?_)
  generalize wv7.drew = wv8 at HB hHeld ⊢
  refine pure_ (i := 1) (N := some 35) (v := ?_) (a' := ?_) (bl 17 2) rfl rfl (by kernel_rfl) (fun _ _ _ h => h) (Or.inl ⟨by rfl, ?_⟩) ?_ ?_
  rotate_left
  · intro w'
    go_simp
    with_reducible rfl
  rotate_left
  · simp only [Act.put, List.setIfInBounds_toArray, List.set_cons_zero, List.set_cons_succ, i64_w, i32_w]
    rfl
  refine pure_ (i := 4) (N := some 38) (v := ?_) (a' := ?_) (bl 17 18) rfl rfl (by kernel_rfl) (fun _ _ _ h => h) (Or.inl ⟨by rfl, ?_⟩) ?_ ?_
  rotate_left
  · intro w'
    go_simp
    with_reducible rfl
  rotate_left
  · simp only [Act.put, List.setIfInBounds_toArray, List.set_cons_zero, List.set_cons_succ, i64_w, i32_w]
    rfl
  refine take_ (i := 0) (N := some 34) (v := ?_) (a' := ?_) (bl 17 19) rfl rfl (by kernel_rfl) (fun _ _ _ h => h) (Or.inl ⟨by rfl, ?_⟩) hHeld ?_ ?_
  rotate_left
  · rintro w' ⟨s0, s1⟩
    go_simp
    with_reducible rfl
  rotate_left
  · simp only [Act.put, List.setIfInBounds_toArray, List.set_cons_zero, List.set_cons_succ, i64_w, i32_w]
    rfl
  refine take_ (i := 3) (N := some 37) (v := ?_) (a' := ?_) (bl 17 27) rfl rfl (by kernel_rfl) (fun _ _ _ h => h) (Or.inl ⟨by rfl, ?_⟩) hHeld ?_ ?_
  rotate_left
  · rintro w' ⟨s0, s1⟩
    go_simp
    with_reducible rfl
  rotate_left
  · simp only [Act.put, List.setIfInBounds_toArray, List.set_cons_zero, List.set_cons_succ, i64_w, i32_w]
    rfl
  refine one_ (i := 2) (N := some 36) (bl 17 31) rfl rfl (by kernel_rfl) (by decide) (fun K hK => ?_)
  refine goes_ Try.func30 (by kernel_rfl) rfl #[.agg #[.int .i32 a, .int .i32 b], .int .i32 n] (by rfl) rfl rfl (by (try simp only [List.map_toArray, List.map_cons, List.map_nil]); first | done | rfl) ?_
  with_reducible refine (contains_c a b n h1 H1.out _).mono ?_
  rintro e wv9 ⟨rfl, hb⟩
  refine ⟨_, rfl, ?_⟩
  have HN := Aside0.mk (HB.out.step hb)
  clear HB
  have HB := HN
  clear HN
  clear hb
  refine hK.out _ _ ⟨HB.out.c0 0 rfl, HB.out.c1 0 rfl⟩ (fun hHeld => ?_)
  clear hK K
  refine norm_ (a' := ?_) ?_ ?_
  rotate_left
  · show Act.put _ (some 36) _ = _
    simp only [Act.put, List.setIfInBounds_toArray, List.set_cons_zero, List.set_cons_succ, i64_w, i32_w]
    rfl
  refine one_ (i := 5) (N := some 39) (bl 17 63) rfl rfl (by kernel_rfl) (by decide) (fun K hK => ?_)
  refine goes_ Try.func31 (by kernel_rfl) rfl #[.agg #[.int .i32 a, .int .i32 b], .int .i32 n] (by rfl) rfl rfl (by (try simp only [List.map_toArray, List.map_cons, List.map_nil]); first | done | rfl) ?_
  with_reducible refine (has_c a b n h1 H1.out _).mono ?_
  rintro e wv10 ⟨rfl, hb⟩
  refine ⟨_, rfl, ?_⟩
  have HN := Aside0.mk (HB.out.step hb)
  clear HB
  have HB := HN
  clear HN
  clear hb
  refine hK.out _ _ ⟨HB.out.c0 0 rfl, HB.out.c1 0 rfl⟩ (fun hHeld => ?_)
  clear hK K
  refine norm_ (a' := ?_) ?_ ?_
  rotate_left
  · show Act.put _ (some 39) _ = _
    simp only [Act.put, List.setIfInBounds_toArray, List.set_cons_zero, List.set_cons_succ, i64_w, i32_w]
    rfl
  refine pure_ (i := 6) (N := some 40) (v := ?_) (a' := ?_) (bl 17 127) rfl rfl (by kernel_rfl) (fun _ _ _ h => h) (Or.inl ⟨by rfl, ?_⟩) ?_ ?_
  rotate_left
  · intro w'
    go_simp
    with_reducible rfl
  rotate_left
  · simp only [Act.put, List.setIfInBounds_toArray, List.set_cons_zero, List.set_cons_succ, i64_w, i32_w]
    rfl
  refine pure_ (i := 7) (N := some 41) (v := ?_) (a' := ?_) (bl 17 255) rfl rfl (by kernel_rfl) (fun _ _ _ h => h) (Or.inl ⟨by rfl, ?_⟩) ?_ ?_
  rotate_left
  · intro w'
    go_simp
    with_reducible rfl
  rotate_left
  · simp only [Act.put, List.setIfInBounds_toArray, List.set_cons_zero, List.set_cons_succ, i64_w, i32_w]
    rfl
  refine pure_ (i := 10) (N := some 44) (v := ?_) (a' := ?_) (bl 17 1279) rfl rfl (by kernel_rfl) (fun _ _ _ h => h) (Or.inl ⟨by rfl, ?_⟩) ?_ ?_
  rotate_left
  · intro w'
    go_simp
    with_reducible rfl
  rotate_left
  · simp only [Act.put, List.setIfInBounds_toArray, List.set_cons_zero, List.set_cons_succ, i64_w, i32_w]
    rfl
  refine pure_ (i := 12) (N := some 46) (v := ?_) (a' := ?_) (bl 17 5375) rfl rfl (by kernel_rfl) (fun _ _ _ h => h) (Or.inl ⟨by rfl, ?_⟩) ?_ ?_
  rotate_left
  · intro w'
    go_simp
    with_reducible rfl
  rotate_left
  · simp only [Act.put, List.setIfInBounds_toArray, List.set_cons_zero, List.set_cons_succ, i64_w, i32_w]
    rfl
  refine take_ (i := 8) (N := some 42) (v := ?_) (a' := ?_) (bl 17 5631) rfl rfl (by kernel_rfl) (fun _ _ _ h => h) (Or.inl ⟨by rfl, ?_⟩) hHeld ?_ ?_
  rotate_left
  · rintro w' ⟨s0, s1⟩
    go_simp
    with_reducible rfl
  rotate_left
  · simp only [Act.put, List.setIfInBounds_toArray, List.set_cons_zero, List.set_cons_succ, i64_w, i32_w]
    rfl
  refine take_ (i := 11) (N := some 45) (v := ?_) (a' := ?_) (bl 17 7679) rfl rfl (by kernel_rfl) (fun _ _ _ h => h) (Or.inl ⟨by rfl, ?_⟩) hHeld ?_ ?_
  rotate_left
  · rintro w' ⟨s0, s1⟩
    go_simp
    with_reducible rfl
  rotate_left
  · simp only [Act.put, List.setIfInBounds_toArray, List.set_cons_zero, List.set_cons_succ, i64_w, i32_w]
    rfl
  refine take_ (i := 13) (N := some 47) (v := ?_) (a' := ?_) (bl 17 15871) rfl rfl (by kernel_rfl) (fun _ _ _ h => h) (Or.inl ⟨by rfl, ?_⟩) hHeld ?_ ?_
  rotate_left
  · rintro w' ⟨s0, s1⟩
    go_simp
    with_reducible rfl
  rotate_left
  · simp only [Act.put, List.setIfInBounds_toArray, List.set_cons_zero, List.set_cons_succ, i64_w, i32_w]
    rfl
  refine pure_ (i := 14) (N := some 48) (v := ?_) (a' := ?_) (bl 17 32255) rfl rfl (by kernel_rfl) (fun _ _ _ h => h) (Or.inl ⟨by rfl, ?_⟩) ?_ ?_
  rotate_left
  · intro w'
    go_simp
    with_reducible rfl
  rotate_left
  · simp only [Act.put, List.setIfInBounds_toArray, List.set_cons_zero, List.set_cons_succ, i64_w, i32_w]
    rfl
  refine one_ (i := 9) (N := some 43) (bl 17 32767) rfl rfl (by kernel_rfl) (by decide) (fun K hK => ?_)
  refine goes_ Try.func32 (by kernel_rfl) rfl #[.agg #[.int .i32 a, .int .i32 b]] (by rfl) rfl rfl (by (try simp only [List.map_toArray, List.map_cons, List.map_nil]); first | done | rfl) ?_
  with_reducible refine (isE_c a b false he.out _).mono ?_
  rintro e wv11 ⟨rfl, hb⟩
  refine ⟨_, rfl, ?_⟩
  have HN := Aside0.mk (HB.out.step hb)
  clear HB
  have HB := HN
  clear HN
  clear hb
  refine hK.out _ _ ⟨HB.out.c0 0 rfl, HB.out.c1 0 rfl⟩ (fun hHeld => ?_)
  clear hK K
  refine norm_ (a' := ?_) ?_ ?_
  rotate_left
  · show Act.put _ (some 43) _ = _
    simp only [Act.put, List.setIfInBounds_toArray, List.set_cons_zero, List.set_cons_succ, i64_w, i32_w]
    rfl
  refine pure_ (i := 15) (N := some 49) (v := ?_) (a' := ?_) (bl 17 65535) rfl rfl (by kernel_rfl) (fun _ _ _ h => h) (Or.inl ⟨by rfl, ?_⟩) ?_ ?_
  rotate_left
  · intro w'
    go_simp
    with_reducible rfl
  rotate_left
  · simp only [Act.put, List.setIfInBounds_toArray, List.set_cons_zero, List.set_cons_succ, i64_w, i32_w]
    rfl
  refine pure_ (i := 16) (N := some 50) (v := ?_) (a' := ?_) (bl 17 131071) rfl rfl (by kernel_rfl) (fun _ _ _ h => h) (Or.inl ⟨by rfl, ?_⟩) ?_ ?_
  rotate_left
  · intro w'
    go_simp
    with_reducible rfl
  rotate_left
  · simp only [Act.put, List.setIfInBounds_toArray, List.set_cons_zero, List.set_cons_succ, i64_w, i32_w]
    rfl
  refine done_ (by kernel_rfl) ?_
  have C := HB.out.cl
  simp only [Cl, and_true] at C
  obtain ⟨_, _, _, _, _, _, _, _⟩ := C
  go_wp2_with fail
  (with_reducible refine (has_c c d a true k1.out _).mono ?_); rintro e wv12 ⟨rfl, hb⟩
  have HN := Aside0.mk (HB.out.step hb)
  clear HB
  have HB := HN
  clear HN
  clear hb
  have C := HB.out.cl
  simp only [Cl, and_true] at C
  obtain ⟨_, _, _, _, _, _, _, _⟩ := C
  go_wp2_with fail
  (with_reducible refine (has_c c d b false k2.out _).mono ?_); rintro e wv13 ⟨rfl, hb⟩
  have HN := Aside0.mk (HB.out.step hb)
  clear HB
  have HB := HN
  clear HN
  clear hb
  have C := HB.out.cl
  simp only [Cl, and_true] at C
  obtain ⟨_, _, _, _, _, _, _, _⟩ := C
  go_wp2_with fail
  have HN := Aside0.mk (HB.out.drew)
  clear HB
  have HB := HN
  clear HN
  refine start_ (n := 21) (S := fun w' => w'.cell? ⟨w.heap.size, 0, none⟩ = some (.int .i32 a) ∧ w'.cell? ⟨w.heap.size, 1, none⟩ = some (.int .i32 b) ∧ w'.cell? ⟨w.heap.size + 1, 0, none⟩ = some (.int .i32 c) ∧ w'.cell? ⟨w.heap.size + 1, 1, none⟩ = some (.int .i32 d)) (ds := []) #[false, false, false, false, false, false, false, false, false, false, false, false, false, false, false, false, false, false, false, false, false] (by kernel_rfl) rfl rfl ⟨HB.out.c0 0 rfl, HB.out.c1 0 rfl, HB.out.c0 1 rfl, HB.out.c1 1 rfl⟩ (fun hHeld => ?_)
  generalize wv13.drew = wv14 at HB hHeld ⊢
  refine pure_ (i := 3) (N := some 71) (v := ?_) (a' := ?_) (bl 21 8) rfl rfl (by kernel_rfl) (fun _ _ _ h => h) (Or.inl ⟨by rfl, ?_⟩) ?_ ?_
  rotate_left
  · intro w'
    go_simp
    with_reducible rfl
  rotate_left
  · simp only [Act.put, List.setIfInBounds_toArray, List.set_cons_zero, List.set_cons_succ, i64_w, i32_w]
    rfl
  refine take_ (i := 0) (N := some 68) (v := ?_) (a' := ?_) (bl 21 9) rfl rfl (by kernel_rfl) (fun _ _ _ h => h) (Or.inl ⟨by rfl, ?_⟩) hHeld ?_ ?_
  rotate_left
  · rintro w' ⟨s0, s1, s2, s3⟩
    go_simp
    with_reducible rfl
  rotate_left
  · simp only [Act.put, List.setIfInBounds_toArray, List.set_cons_zero, List.set_cons_succ, i64_w, i32_w]
    rfl
  refine take_ (i := 1) (N := some 69) (v := ?_) (a' := ?_) (bl 21 11) rfl rfl (by kernel_rfl) (fun _ _ _ h => h) (Or.inl ⟨by rfl, ?_⟩) hHeld ?_ ?_
  rotate_left
  · rintro w' ⟨s0, s1, s2, s3⟩
    go_simp
    with_reducible rfl
  rotate_left
  · simp only [Act.put, List.setIfInBounds_toArray, List.set_cons_zero, List.set_cons_succ, i64_w, i32_w]
    rfl
  refine one_ (i := 2) (N := some 70) (bl 21 15) rfl rfl (by kernel_rfl) (by decide) (fun K hK => ?_)
  refine goes_ Try.func29 (by kernel_rfl) rfl #[.agg #[.int .i32 a, .int .i32 b], .agg #[.int .i32 c, .int .i32 d]] (by rfl) rfl rfl (by (try simp only [List.map_toArray, List.map_cons, List.map_nil]); first | done | rfl) ?_
  with_reducible refine (within_c a b c d false hw.out _).mono ?_
  rintro e wv15 ⟨rfl, hb⟩
  refine ⟨_, rfl, ?_⟩
  have HN := Aside0.mk (HB.out.step hb)
  clear HB
  have HB := HN
  clear HN
  clear hb
  refine hK.out _ _ ⟨HB.out.c0 0 rfl, HB.out.c1 0 rfl, HB.out.c0 1 rfl, HB.out.c1 1 rfl⟩ (fun hHeld => ?_)
  clear hK K
  refine norm_ (a' := ?_) ?_ ?_
  rotate_left
  · show Act.put _ (some 70) _ = _
    simp only [Act.put, List.setIfInBounds_toArray, List.set_cons_zero, List.set_cons_succ, i64_w, i32_w]
    rfl
  refine pure_ (i := 4) (N := some 72) (v := ?_) (a' := ?_) (bl 21 31) rfl rfl (by kernel_rfl) (fun _ _ _ h => h) (Or.inl ⟨by rfl, ?_⟩) ?_ ?_
  rotate_left
  · intro w'
    go_simp
    with_reducible rfl
  rotate_left
  · simp only [Act.put, List.setIfInBounds_toArray, List.set_cons_zero, List.set_cons_succ, i64_w, i32_w]
    rfl
  refine pure_ (i := 5) (N := some 73) (v := ?_) (a' := ?_) (bl 21 63) rfl rfl (by kernel_rfl) (fun _ _ _ h => h) (Or.inl ⟨by rfl, ?_⟩) ?_ ?_
  rotate_left
  · intro w'
    go_simp
    with_reducible rfl
  rotate_left
  · simp only [Act.put, List.setIfInBounds_toArray, List.set_cons_zero, List.set_cons_succ, i64_w, i32_w]
    rfl
  refine take_ (i := 6) (N := some 74) (v := ?_) (a' := ?_) (bl 21 127) rfl rfl (by kernel_rfl) (fun _ _ _ h => h) (Or.inl ⟨by rfl, ?_⟩) hHeld ?_ ?_
  rotate_left
  · rintro w' ⟨s0, s1, s2, s3⟩
    go_simp
    with_reducible rfl
  rotate_left
  · simp only [Act.put, List.setIfInBounds_toArray, List.set_cons_zero, List.set_cons_succ, i64_w, i32_w]
    rfl
  refine take_ (i := 7) (N := some 75) (v := ?_) (a' := ?_) (bl 21 255) rfl rfl (by kernel_rfl) (fun _ _ _ h => h) (Or.inl ⟨by rfl, ?_⟩) hHeld ?_ ?_
  rotate_left
  · rintro w' ⟨s0, s1, s2, s3⟩
    go_simp
    with_reducible rfl
  rotate_left
  · simp only [Act.put, List.setIfInBounds_toArray, List.set_cons_zero, List.set_cons_succ, i64_w, i32_w]
    rfl
  refine one_ (i := 8) (N := some 76) (bl 21 511) rfl rfl (by kernel_rfl) (by decide) (fun K hK => ?_)
  refine goes_ Try.func29 (by kernel_rfl) rfl #[.agg #[.int .i32 a, .int .i32 b], .agg #[.int .i32 a, .int .i32 b]] (by rfl) rfl rfl (by (try simp only [List.map_toArray, List.map_cons, List.map_nil]); first | done | rfl) ?_
  with_reducible refine (within_c a b a b true hxx.out _).mono ?_
  rintro e wv16 ⟨rfl, hb⟩
  refine ⟨_, rfl, ?_⟩
  have HN := Aside0.mk (HB.out.step hb)
  clear HB
  have HB := HN
  clear HN
  clear hb
  refine hK.out _ _ ⟨HB.out.c0 0 rfl, HB.out.c1 0 rfl, HB.out.c0 1 rfl, HB.out.c1 1 rfl⟩ (fun hHeld => ?_)
  clear hK K
  refine norm_ (a' := ?_) ?_ ?_
  rotate_left
  · show Act.put _ (some 76) _ = _
    simp only [Act.put, List.setIfInBounds_toArray, List.set_cons_zero, List.set_cons_succ, i64_w, i32_w]
    rfl
  refine pure_ (i := 9) (N := some 77) (v := ?_) (a' := ?_) (bl 21 1023) rfl rfl (by kernel_rfl) (fun _ _ _ h => h) (Or.inl ⟨by rfl, ?_⟩) ?_ ?_
  rotate_left
  · intro w'
    go_simp
    with_reducible rfl
  rotate_left
  · simp only [Act.put, List.setIfInBounds_toArray, List.set_cons_zero, List.set_cons_succ, i64_w, i32_w]
    rfl
  refine pure_ (i := 10) (N := some 78) (v := ?_) (a' := ?_) (bl 21 2047) rfl rfl (by kernel_rfl) (fun _ _ _ h => h) (Or.inl ⟨by rfl, ?_⟩) ?_ ?_
  rotate_left
  · intro w'
    go_simp
    with_reducible rfl
  rotate_left
  · simp only [Act.put, List.setIfInBounds_toArray, List.set_cons_zero, List.set_cons_succ, i64_w, i32_w]
    rfl
  refine take_ (i := 12) (N := some 80) (v := ?_) (a' := ?_) (bl 21 6143) rfl rfl (by kernel_rfl) (fun _ _ _ h => h) (Or.inl ⟨by rfl, ?_⟩) hHeld ?_ ?_
  rotate_left
  · rintro w' ⟨s0, s1, s2, s3⟩
    go_simp
    with_reducible rfl
  rotate_left
  · simp only [Act.put, List.setIfInBounds_toArray, List.set_cons_zero, List.set_cons_succ, i64_w, i32_w]
    rfl
  refine one_ (i := 11) (N := some 79) (bl 21 8191) rfl rfl (by kernel_rfl) (by decide) (fun K hK => ?_)
  refine goes_ Try.func33 (by kernel_rfl) rfl #[] (by rfl) rfl rfl (by (try simp only [List.map_toArray, List.map_cons, List.map_nil]); first | done | rfl) ?_
  with_reducible refine (empty_c _).mono ?_
  rintro e wv17 ⟨rfl, hb⟩
  refine ⟨_, rfl, ?_⟩
  have HN := Aside0.mk (HB.out.step hb)
  clear HB
  have HB := HN
  clear HN
  clear hb
  refine hK.out _ _ ⟨HB.out.c0 0 rfl, HB.out.c1 0 rfl, HB.out.c0 1 rfl, HB.out.c1 1 rfl⟩ (fun hHeld => ?_)
  clear hK K
  refine norm_ (a' := ?_) ?_ ?_
  rotate_left
  · show Act.put _ (some 79) _ = _
    simp only [Act.put, List.setIfInBounds_toArray, List.set_cons_zero, List.set_cons_succ, i64_w, i32_w]
    rfl
  refine one_ (i := 13) (N := some 81) (bl 21 16383) rfl rfl (by kernel_rfl) (by decide) (fun K hK => ?_)
  refine goes_ Try.func29 (by kernel_rfl) rfl #[.agg #[.int .i32 1, .int .i32 0], .agg #[.int .i32 a, .int .i32 b]] (by rfl) rfl rfl (by (try simp only [List.map_toArray, List.map_cons, List.map_nil]); first | done | rfl) ?_
  with_reducible refine (within_c 1 0 a b true hex.out _).mono ?_
  rintro e wv18 ⟨rfl, hb⟩
  refine ⟨_, rfl, ?_⟩
  have HN := Aside0.mk (HB.out.step hb)
  clear HB
  have HB := HN
  clear HN
  clear hb
  refine hK.out _ _ ⟨HB.out.c0 0 rfl, HB.out.c1 0 rfl, HB.out.c0 1 rfl, HB.out.c1 1 rfl⟩ (fun hHeld => ?_)
  clear hK K
  refine norm_ (a' := ?_) ?_ ?_
  rotate_left
  · show Act.put _ (some 81) _ = _
    simp only [Act.put, List.setIfInBounds_toArray, List.set_cons_zero, List.set_cons_succ, i64_w, i32_w]
    rfl
  refine pure_ (i := 14) (N := some 82) (v := ?_) (a' := ?_) (bl 21 32767) rfl rfl (by kernel_rfl) (fun _ _ _ h => h) (Or.inl ⟨by rfl, ?_⟩) ?_ ?_
  rotate_left
  · intro w'
    go_simp
    with_reducible rfl
  rotate_left
  · simp only [Act.put, List.setIfInBounds_toArray, List.set_cons_zero, List.set_cons_succ, i64_w, i32_w]
    rfl
  refine pure_ (i := 15) (N := some 83) (v := ?_) (a' := ?_) (bl 21 65535) rfl rfl (by kernel_rfl) (fun _ _ _ h => h) (Or.inl ⟨by rfl, ?_⟩) ?_ ?_
  rotate_left
  · intro w'
    go_simp
    with_reducible rfl
  rotate_left
  · simp only [Act.put, List.setIfInBounds_toArray, List.set_cons_zero, List.set_cons_succ, i64_w, i32_w]
    rfl
  refine take_ (i := 16) (N := some 84) (v := ?_) (a' := ?_) (bl 21 131071) rfl rfl (by kernel_rfl) (fun _ _ _ h => h) (Or.inl ⟨by rfl, ?_⟩) hHeld ?_ ?_
  rotate_left
  · rintro w' ⟨s0, s1, s2, s3⟩
    go_simp
    with_reducible rfl
  rotate_left
  · simp only [Act.put, List.setIfInBounds_toArray, List.set_cons_zero, List.set_cons_succ, i64_w, i32_w]
    rfl
  refine one_ (i := 17) (N := some 85) (bl 21 262143) rfl rfl (by kernel_rfl) (by decide) (fun K hK => ?_)
  refine goes_ Try.func42 (by kernel_rfl) rfl #[] (by rfl) rfl rfl (by (try simp only [List.map_toArray, List.map_cons, List.map_nil]); first | done | rfl) ?_
  with_reducible refine (full_c _).mono ?_
  rintro e wv19 ⟨rfl, hb⟩
  refine ⟨_, rfl, ?_⟩
  have HN := Aside0.mk (HB.out.step hb)
  clear HB
  have HB := HN
  clear HN
  clear hb
  refine hK.out _ _ ⟨HB.out.c0 0 rfl, HB.out.c1 0 rfl, HB.out.c0 1 rfl, HB.out.c1 1 rfl⟩ (fun hHeld => ?_)
  clear hK K
  refine norm_ (a' := ?_) ?_ ?_
  rotate_left
  · show Act.put _ (some 85) _ = _
    simp only [Act.put, List.setIfInBounds_toArray, List.set_cons_zero, List.set_cons_succ, i64_w, i32_w]
    rfl
  refine one_ (i := 18) (N := some 86) (bl 21 524287) rfl rfl (by kernel_rfl) (by decide) (fun K hK => ?_)
  refine goes_ Try.func29 (by kernel_rfl) rfl #[.agg #[.int .i32 a, .int .i32 b], .agg #[.int .i32 (-2147483648), .int .i32 2147483647]] (by rfl) rfl rfl (by (try simp only [List.map_toArray, List.map_cons, List.map_nil]); first | done | rfl) ?_
  with_reducible refine (within_c a b (-2147483648) 2147483647 true hxf.out _).mono ?_
  rintro e wv20 ⟨rfl, hb⟩
  refine ⟨_, rfl, ?_⟩
  have HN := Aside0.mk (HB.out.step hb)
  clear HB
  have HB := HN
  clear HN
  clear hb
  refine hK.out _ _ ⟨HB.out.c0 0 rfl, HB.out.c1 0 rfl, HB.out.c0 1 rfl, HB.out.c1 1 rfl⟩ (fun hHeld => ?_)
  clear hK K
  refine norm_ (a' := ?_) ?_ ?_
  rotate_left
  · show Act.put _ (some 86) _ = _
    simp only [Act.put, List.setIfInBounds_toArray, List.set_cons_zero, List.set_cons_succ, i64_w, i32_w]
    rfl
  refine pure_ (i := 19) (N := some 87) (v := ?_) (a' := ?_) (bl 21 1048575) rfl rfl (by kernel_rfl) (fun _ _ _ h => h) (Or.inl ⟨by rfl, ?_⟩) ?_ ?_
  rotate_left
  · intro w'
    go_simp
    with_reducible rfl
  rotate_left
  · simp only [Act.put, List.setIfInBounds_toArray, List.set_cons_zero, List.set_cons_succ, i64_w, i32_w]
    rfl
  refine pure_ (i := 20) (N := some 6) (v := ?_) (a' := ?_) (bl 21 2097151) rfl rfl (by kernel_rfl) (fun _ _ _ h => h) (Or.inl ⟨by rfl, ?_⟩) ?_ ?_
  rotate_left
  · intro w'
    go_simp
    with_reducible rfl
  rotate_left
  · simp only [Act.put, List.setIfInBounds_toArray, List.set_cons_zero, List.set_cons_succ, i64_w, i32_w]
    rfl
  refine done_ (by kernel_rfl) ?_
  have C := HB.out.cl
  simp only [Cl, and_true] at C
  obtain ⟨_, _, _, _, _, _, _, _⟩ := C
  go_wp2_with fail
  go_ret
  exact ⟨by first | rfl | (simp; done) | (simp [*]; done), HB.out.below⟩

set_option maxHeartbeats 4000000 in
set_option maxRecDepth 100000 in
theorem walk3 (a b c d n : Int) (h1 : Bool) (H1 : Aside0 (hasv a b n = h1)) (he : Aside0 (decide (b < a) = false)) (hl : decide (b < a) = false) (hw : Aside0 (within a b c d = true)) (hxx : Aside0 (within a b a b = true)) (hex : Aside0 (within 1 0 a b = true)) (hxf : Aside0 (within a b (-2147483648) 2147483647 = true)) (hf : Aside0 (hasv (-2147483648) 2147483647 n = true)) (hem : Aside0 (hasv 1 0 n = false)) (k1 : Aside0 (hasv c d a = true)) (k2 : Aside0 (hasv c d b = true)) (w : World) : Calls Try.prog 18 #[.agg #[.int .i32 a, .int .i32 b], .agg #[.int .i32 c, .int .i32 d], .int .i32 n] w fun e w' => e = .returned (.bool true) ∧ Below w.heap.size w w' := by
  have hu38 := Try.underlying38
  go_enter Try.func18, Try.ntmps18
  go_upto_region 1 with (fail)
  have HB := Aside0.mk (Bx.start2 w a b c d)
  generalize World.alloc (World.alloc w _) _ = w0 at HB ⊢
  have C := HB.out.cl
  simp only [Cl, and_true] at C
  obtain ⟨_, _, _, _, _, _, _, _⟩ := C
  go_wp2_with fail
  (with_reducible refine (awake_c _).mono ?_); rintro e wv1 ⟨rfl, hb⟩
  have HN := Aside0.mk (HB.out.step hb)
  clear HB
  have HB := HN
  clear HN
  clear hb
  have C := HB.out.cl
  simp only [Cl, and_true] at C
  obtain ⟨_, _, _, _, _, _, _, _⟩ := C
  go_wp2_with fail
  (with_reducible refine (of_c n _).mono ?_); rintro e wv2 ⟨rfl, hb⟩
  have HN := Aside0.mk (HB.out.step hb)
  clear HB
  have HB := HN
  clear HN
  clear hb
  have C := HB.out.cl
  simp only [Cl, and_true] at C
  obtain ⟨_, _, _, _, _, _, _, _⟩ := C
  go_wp2_with fail
  (with_reducible refine (full_c _).mono ?_); rintro e wv3 ⟨rfl, hb⟩
  have HN := Aside0.mk (HB.out.step hb)
  clear HB
  have HB := HN
  clear HN
  clear hb
  have C := HB.out.cl
  simp only [Cl, and_true] at C
  obtain ⟨_, _, _, _, _, _, _, _⟩ := C
  go_wp2_with fail
  (with_reducible refine (contains_c (-2147483648) 2147483647 n true hf.out _).mono ?_); rintro e wv4 ⟨rfl, hb⟩
  have HN := Aside0.mk (HB.out.step hb)
  clear HB
  have HB := HN
  clear HN
  clear hb
  have C := HB.out.cl
  simp only [Cl, and_true] at C
  obtain ⟨_, _, _, _, _, _, _, _⟩ := C
  go_wp2_with fail
  (with_reducible refine (empty_c _).mono ?_); rintro e wv5 ⟨rfl, hb⟩
  have HN := Aside0.mk (HB.out.step hb)
  clear HB
  have HB := HN
  clear HN
  clear hb
  have C := HB.out.cl
  simp only [Cl, and_true] at C
  obtain ⟨_, _, _, _, _, _, _, _⟩ := C
  go_wp2_with fail
  (with_reducible refine (contains_c 1 0 n false hem.out _).mono ?_); rintro e wv6 ⟨rfl, hb⟩
  have HN := Aside0.mk (HB.out.step hb)
  clear HB
  have HB := HN
  clear HN
  clear hb
  have C := HB.out.cl
  simp only [Cl, and_true] at C
  obtain ⟨_, _, _, _, _, _, _, _⟩ := C
  go_wp2_with fail
  (with_reducible refine (empty_c _).mono ?_); rintro e wv7 ⟨rfl, hb⟩
  have HN := Aside0.mk (HB.out.step hb)
  clear HB
  have HB := HN
  clear HN
  clear hb
  have C := HB.out.cl
  simp only [Cl, and_true] at C
  obtain ⟨_, _, _, _, _, _, _, _⟩ := C
  go_wp2_with fail
  have HN := Aside0.mk (HB.out.drew)
  clear HB
  have HB := HN
  clear HN
  refine start_ (n := 17) (S := fun w' => w'.cell? ⟨w.heap.size, 0, none⟩ = some (.int .i32 a) ∧ w'.cell? ⟨w.heap.size, 1, none⟩ = some (.int .i32 b)) (ds := []) #[false, false, false, false, false, false, false, false, false, false, false, false, false, false, false, false, false] (by kernel_rfl) rfl rfl ⟨HB.out.c0 0 rfl, HB.out.c1 0 rfl⟩ (fun hHeld => ?_)
  generalize wv7.drew = wv8 at HB hHeld ⊢
  refine pure_ (i := 1) (N := some 35) (v := ?_) (a' := ?_) (bl 17 2) rfl rfl (by kernel_rfl) (fun _ _ _ h => h) (Or.inl ⟨by rfl, ?_⟩) ?_ ?_
  rotate_left
  · intro w'
    go_simp
    with_reducible rfl
  rotate_left
  · simp only [Act.put, List.setIfInBounds_toArray, List.set_cons_zero, List.set_cons_succ, i64_w, i32_w]
    rfl
  refine pure_ (i := 4) (N := some 38) (v := ?_) (a' := ?_) (bl 17 18) rfl rfl (by kernel_rfl) (fun _ _ _ h => h) (Or.inl ⟨by rfl, ?_⟩) ?_ ?_
  rotate_left
  · intro w'
    go_simp
    with_reducible rfl
  rotate_left
  · simp only [Act.put, List.setIfInBounds_toArray, List.set_cons_zero, List.set_cons_succ, i64_w, i32_w]
    rfl
  refine take_ (i := 0) (N := some 34) (v := ?_) (a' := ?_) (bl 17 19) rfl rfl (by kernel_rfl) (fun _ _ _ h => h) (Or.inl ⟨by rfl, ?_⟩) hHeld ?_ ?_
  rotate_left
  · rintro w' ⟨s0, s1⟩
    go_simp
    with_reducible rfl
  rotate_left
  · simp only [Act.put, List.setIfInBounds_toArray, List.set_cons_zero, List.set_cons_succ, i64_w, i32_w]
    rfl
  refine take_ (i := 3) (N := some 37) (v := ?_) (a' := ?_) (bl 17 27) rfl rfl (by kernel_rfl) (fun _ _ _ h => h) (Or.inl ⟨by rfl, ?_⟩) hHeld ?_ ?_
  rotate_left
  · rintro w' ⟨s0, s1⟩
    go_simp
    with_reducible rfl
  rotate_left
  · simp only [Act.put, List.setIfInBounds_toArray, List.set_cons_zero, List.set_cons_succ, i64_w, i32_w]
    rfl
  refine one_ (i := 2) (N := some 36) (bl 17 31) rfl rfl (by kernel_rfl) (by decide) (fun K hK => ?_)
  refine goes_ Try.func30 (by kernel_rfl) rfl #[.agg #[.int .i32 a, .int .i32 b], .int .i32 n] (by rfl) rfl rfl (by (try simp only [List.map_toArray, List.map_cons, List.map_nil]); first | done | rfl) ?_
  with_reducible refine (contains_c a b n h1 H1.out _).mono ?_
  rintro e wv9 ⟨rfl, hb⟩
  refine ⟨_, rfl, ?_⟩
  have HN := Aside0.mk (HB.out.step hb)
  clear HB
  have HB := HN
  clear HN
  clear hb
  refine hK.out _ _ ⟨HB.out.c0 0 rfl, HB.out.c1 0 rfl⟩ (fun hHeld => ?_)
  clear hK K
  refine norm_ (a' := ?_) ?_ ?_
  rotate_left
  · show Act.put _ (some 36) _ = _
    simp only [Act.put, List.setIfInBounds_toArray, List.set_cons_zero, List.set_cons_succ, i64_w, i32_w]
    rfl
  refine one_ (i := 5) (N := some 39) (bl 17 63) rfl rfl (by kernel_rfl) (by decide) (fun K hK => ?_)
  refine goes_ Try.func31 (by kernel_rfl) rfl #[.agg #[.int .i32 a, .int .i32 b], .int .i32 n] (by rfl) rfl rfl (by (try simp only [List.map_toArray, List.map_cons, List.map_nil]); first | done | rfl) ?_
  with_reducible refine (has_c a b n h1 H1.out _).mono ?_
  rintro e wv10 ⟨rfl, hb⟩
  refine ⟨_, rfl, ?_⟩
  have HN := Aside0.mk (HB.out.step hb)
  clear HB
  have HB := HN
  clear HN
  clear hb
  refine hK.out _ _ ⟨HB.out.c0 0 rfl, HB.out.c1 0 rfl⟩ (fun hHeld => ?_)
  clear hK K
  refine norm_ (a' := ?_) ?_ ?_
  rotate_left
  · show Act.put _ (some 39) _ = _
    simp only [Act.put, List.setIfInBounds_toArray, List.set_cons_zero, List.set_cons_succ, i64_w, i32_w]
    rfl
  refine pure_ (i := 6) (N := some 40) (v := ?_) (a' := ?_) (bl 17 127) rfl rfl (by kernel_rfl) (fun _ _ _ h => h) (Or.inl ⟨by rfl, ?_⟩) ?_ ?_
  rotate_left
  · intro w'
    go_simp
    with_reducible rfl
  rotate_left
  · simp only [Act.put, List.setIfInBounds_toArray, List.set_cons_zero, List.set_cons_succ, i64_w, i32_w]
    rfl
  refine pure_ (i := 7) (N := some 41) (v := ?_) (a' := ?_) (bl 17 255) rfl rfl (by kernel_rfl) (fun _ _ _ h => h) (Or.inl ⟨by rfl, ?_⟩) ?_ ?_
  rotate_left
  · intro w'
    go_simp
    with_reducible rfl
  rotate_left
  · simp only [Act.put, List.setIfInBounds_toArray, List.set_cons_zero, List.set_cons_succ, i64_w, i32_w]
    rfl
  refine pure_ (i := 10) (N := some 44) (v := ?_) (a' := ?_) (bl 17 1279) rfl rfl (by kernel_rfl) (fun _ _ _ h => h) (Or.inl ⟨by rfl, ?_⟩) ?_ ?_
  rotate_left
  · intro w'
    go_simp
    with_reducible rfl
  rotate_left
  · simp only [Act.put, List.setIfInBounds_toArray, List.set_cons_zero, List.set_cons_succ, i64_w, i32_w]
    rfl
  refine pure_ (i := 12) (N := some 46) (v := ?_) (a' := ?_) (bl 17 5375) rfl rfl (by kernel_rfl) (fun _ _ _ h => h) (Or.inl ⟨by rfl, ?_⟩) ?_ ?_
  rotate_left
  · intro w'
    go_simp
    with_reducible rfl
  rotate_left
  · simp only [Act.put, List.setIfInBounds_toArray, List.set_cons_zero, List.set_cons_succ, i64_w, i32_w]
    rfl
  refine take_ (i := 8) (N := some 42) (v := ?_) (a' := ?_) (bl 17 5631) rfl rfl (by kernel_rfl) (fun _ _ _ h => h) (Or.inl ⟨by rfl, ?_⟩) hHeld ?_ ?_
  rotate_left
  · rintro w' ⟨s0, s1⟩
    go_simp
    with_reducible rfl
  rotate_left
  · simp only [Act.put, List.setIfInBounds_toArray, List.set_cons_zero, List.set_cons_succ, i64_w, i32_w]
    rfl
  refine take_ (i := 11) (N := some 45) (v := ?_) (a' := ?_) (bl 17 7679) rfl rfl (by kernel_rfl) (fun _ _ _ h => h) (Or.inl ⟨by rfl, ?_⟩) hHeld ?_ ?_
  rotate_left
  · rintro w' ⟨s0, s1⟩
    go_simp
    with_reducible rfl
  rotate_left
  · simp only [Act.put, List.setIfInBounds_toArray, List.set_cons_zero, List.set_cons_succ, i64_w, i32_w]
    rfl
  refine take_ (i := 13) (N := some 47) (v := ?_) (a' := ?_) (bl 17 15871) rfl rfl (by kernel_rfl) (fun _ _ _ h => h) (Or.inl ⟨by rfl, ?_⟩) hHeld ?_ ?_
  rotate_left
  · rintro w' ⟨s0, s1⟩
    go_simp
    with_reducible rfl
  rotate_left
  · simp only [Act.put, List.setIfInBounds_toArray, List.set_cons_zero, List.set_cons_succ, i64_w, i32_w]
    rfl
  refine pure_ (i := 14) (N := some 48) (v := ?_) (a' := ?_) (bl 17 32255) rfl rfl (by kernel_rfl) (fun _ _ _ h => h) (Or.inl ⟨by rfl, ?_⟩) ?_ ?_
  rotate_left
  · intro w'
    go_simp
    with_reducible rfl
  rotate_left
  · simp only [Act.put, List.setIfInBounds_toArray, List.set_cons_zero, List.set_cons_succ, i64_w, i32_w]
    rfl
  refine one_ (i := 9) (N := some 43) (bl 17 32767) rfl rfl (by kernel_rfl) (by decide) (fun K hK => ?_)
  refine goes_ Try.func32 (by kernel_rfl) rfl #[.agg #[.int .i32 a, .int .i32 b]] (by rfl) rfl rfl (by (try simp only [List.map_toArray, List.map_cons, List.map_nil]); first | done | rfl) ?_
  with_reducible refine (isE_c a b false he.out _).mono ?_
  rintro e wv11 ⟨rfl, hb⟩
  refine ⟨_, rfl, ?_⟩
  have HN := Aside0.mk (HB.out.step hb)
  clear HB
  have HB := HN
  clear HN
  clear hb
  refine hK.out _ _ ⟨HB.out.c0 0 rfl, HB.out.c1 0 rfl⟩ (fun hHeld => ?_)
  clear hK K
  refine norm_ (a' := ?_) ?_ ?_
  rotate_left
  · show Act.put _ (some 43) _ = _
    simp only [Act.put, List.setIfInBounds_toArray, List.set_cons_zero, List.set_cons_succ, i64_w, i32_w]
    rfl
  refine pure_ (i := 15) (N := some 49) (v := ?_) (a' := ?_) (bl 17 65535) rfl rfl (by kernel_rfl) (fun _ _ _ h => h) (Or.inl ⟨by rfl, ?_⟩) ?_ ?_
  rotate_left
  · intro w'
    go_simp
    with_reducible rfl
  rotate_left
  · simp only [Act.put, List.setIfInBounds_toArray, List.set_cons_zero, List.set_cons_succ, i64_w, i32_w]
    rfl
  refine pure_ (i := 16) (N := some 50) (v := ?_) (a' := ?_) (bl 17 131071) rfl rfl (by kernel_rfl) (fun _ _ _ h => h) (Or.inl ⟨by rfl, ?_⟩) ?_ ?_
  rotate_left
  · intro w'
    go_simp
    with_reducible rfl
  rotate_left
  · simp only [Act.put, List.setIfInBounds_toArray, List.set_cons_zero, List.set_cons_succ, i64_w, i32_w]
    rfl
  refine done_ (by kernel_rfl) ?_
  have C := HB.out.cl
  simp only [Cl, and_true] at C
  obtain ⟨_, _, _, _, _, _, _, _⟩ := C
  go_wp2_with fail
  (with_reducible refine (has_c c d a true k1.out _).mono ?_); rintro e wv12 ⟨rfl, hb⟩
  have HN := Aside0.mk (HB.out.step hb)
  clear HB
  have HB := HN
  clear HN
  clear hb
  have C := HB.out.cl
  simp only [Cl, and_true] at C
  obtain ⟨_, _, _, _, _, _, _, _⟩ := C
  go_wp2_with fail
  (with_reducible refine (has_c c d b true k2.out _).mono ?_); rintro e wv13 ⟨rfl, hb⟩
  have HN := Aside0.mk (HB.out.step hb)
  clear HB
  have HB := HN
  clear HN
  clear hb
  have C := HB.out.cl
  simp only [Cl, and_true] at C
  obtain ⟨_, _, _, _, _, _, _, _⟩ := C
  go_wp2_with fail
  have HN := Aside0.mk (HB.out.drew)
  clear HB
  have HB := HN
  clear HN
  refine start_ (n := 21) (S := fun w' => w'.cell? ⟨w.heap.size, 0, none⟩ = some (.int .i32 a) ∧ w'.cell? ⟨w.heap.size, 1, none⟩ = some (.int .i32 b) ∧ w'.cell? ⟨w.heap.size + 1, 0, none⟩ = some (.int .i32 c) ∧ w'.cell? ⟨w.heap.size + 1, 1, none⟩ = some (.int .i32 d)) (ds := []) #[false, false, false, false, false, false, false, false, false, false, false, false, false, false, false, false, false, false, false, false, false] (by kernel_rfl) rfl rfl ⟨HB.out.c0 0 rfl, HB.out.c1 0 rfl, HB.out.c0 1 rfl, HB.out.c1 1 rfl⟩ (fun hHeld => ?_)
  generalize wv13.drew = wv14 at HB hHeld ⊢
  refine pure_ (i := 3) (N := some 71) (v := ?_) (a' := ?_) (bl 21 8) rfl rfl (by kernel_rfl) (fun _ _ _ h => h) (Or.inl ⟨by rfl, ?_⟩) ?_ ?_
  rotate_left
  · intro w'
    go_simp
    with_reducible rfl
  rotate_left
  · simp only [Act.put, List.setIfInBounds_toArray, List.set_cons_zero, List.set_cons_succ, i64_w, i32_w]
    rfl
  refine take_ (i := 0) (N := some 68) (v := ?_) (a' := ?_) (bl 21 9) rfl rfl (by kernel_rfl) (fun _ _ _ h => h) (Or.inl ⟨by rfl, ?_⟩) hHeld ?_ ?_
  rotate_left
  · rintro w' ⟨s0, s1, s2, s3⟩
    go_simp
    with_reducible rfl
  rotate_left
  · simp only [Act.put, List.setIfInBounds_toArray, List.set_cons_zero, List.set_cons_succ, i64_w, i32_w]
    rfl
  refine take_ (i := 1) (N := some 69) (v := ?_) (a' := ?_) (bl 21 11) rfl rfl (by kernel_rfl) (fun _ _ _ h => h) (Or.inl ⟨by rfl, ?_⟩) hHeld ?_ ?_
  rotate_left
  · rintro w' ⟨s0, s1, s2, s3⟩
    go_simp
    with_reducible rfl
  rotate_left
  · simp only [Act.put, List.setIfInBounds_toArray, List.set_cons_zero, List.set_cons_succ, i64_w, i32_w]
    rfl
  refine one_ (i := 2) (N := some 70) (bl 21 15) rfl rfl (by kernel_rfl) (by decide) (fun K hK => ?_)
  refine goes_ Try.func29 (by kernel_rfl) rfl #[.agg #[.int .i32 a, .int .i32 b], .agg #[.int .i32 c, .int .i32 d]] (by rfl) rfl rfl (by (try simp only [List.map_toArray, List.map_cons, List.map_nil]); first | done | rfl) ?_
  with_reducible refine (within_c a b c d true hw.out _).mono ?_
  rintro e wv15 ⟨rfl, hb⟩
  refine ⟨_, rfl, ?_⟩
  have HN := Aside0.mk (HB.out.step hb)
  clear HB
  have HB := HN
  clear HN
  clear hb
  refine hK.out _ _ ⟨HB.out.c0 0 rfl, HB.out.c1 0 rfl, HB.out.c0 1 rfl, HB.out.c1 1 rfl⟩ (fun hHeld => ?_)
  clear hK K
  refine norm_ (a' := ?_) ?_ ?_
  rotate_left
  · show Act.put _ (some 70) _ = _
    simp only [Act.put, List.setIfInBounds_toArray, List.set_cons_zero, List.set_cons_succ, i64_w, i32_w]
    rfl
  refine pure_ (i := 4) (N := some 72) (v := ?_) (a' := ?_) (bl 21 31) rfl rfl (by kernel_rfl) (fun _ _ _ h => h) (Or.inl ⟨by rfl, ?_⟩) ?_ ?_
  rotate_left
  · intro w'
    go_simp
    with_reducible rfl
  rotate_left
  · simp only [Act.put, List.setIfInBounds_toArray, List.set_cons_zero, List.set_cons_succ, i64_w, i32_w]
    rfl
  refine pure_ (i := 5) (N := some 73) (v := ?_) (a' := ?_) (bl 21 63) rfl rfl (by kernel_rfl) (fun _ _ _ h => h) (Or.inl ⟨by rfl, ?_⟩) ?_ ?_
  rotate_left
  · intro w'
    go_simp
    with_reducible rfl
  rotate_left
  · simp only [Act.put, List.setIfInBounds_toArray, List.set_cons_zero, List.set_cons_succ, i64_w, i32_w]
    rfl
  refine take_ (i := 6) (N := some 74) (v := ?_) (a' := ?_) (bl 21 127) rfl rfl (by kernel_rfl) (fun _ _ _ h => h) (Or.inl ⟨by rfl, ?_⟩) hHeld ?_ ?_
  rotate_left
  · rintro w' ⟨s0, s1, s2, s3⟩
    go_simp
    with_reducible rfl
  rotate_left
  · simp only [Act.put, List.setIfInBounds_toArray, List.set_cons_zero, List.set_cons_succ, i64_w, i32_w]
    rfl
  refine take_ (i := 7) (N := some 75) (v := ?_) (a' := ?_) (bl 21 255) rfl rfl (by kernel_rfl) (fun _ _ _ h => h) (Or.inl ⟨by rfl, ?_⟩) hHeld ?_ ?_
  rotate_left
  · rintro w' ⟨s0, s1, s2, s3⟩
    go_simp
    with_reducible rfl
  rotate_left
  · simp only [Act.put, List.setIfInBounds_toArray, List.set_cons_zero, List.set_cons_succ, i64_w, i32_w]
    rfl
  refine one_ (i := 8) (N := some 76) (bl 21 511) rfl rfl (by kernel_rfl) (by decide) (fun K hK => ?_)
  refine goes_ Try.func29 (by kernel_rfl) rfl #[.agg #[.int .i32 a, .int .i32 b], .agg #[.int .i32 a, .int .i32 b]] (by rfl) rfl rfl (by (try simp only [List.map_toArray, List.map_cons, List.map_nil]); first | done | rfl) ?_
  with_reducible refine (within_c a b a b true hxx.out _).mono ?_
  rintro e wv16 ⟨rfl, hb⟩
  refine ⟨_, rfl, ?_⟩
  have HN := Aside0.mk (HB.out.step hb)
  clear HB
  have HB := HN
  clear HN
  clear hb
  refine hK.out _ _ ⟨HB.out.c0 0 rfl, HB.out.c1 0 rfl, HB.out.c0 1 rfl, HB.out.c1 1 rfl⟩ (fun hHeld => ?_)
  clear hK K
  refine norm_ (a' := ?_) ?_ ?_
  rotate_left
  · show Act.put _ (some 76) _ = _
    simp only [Act.put, List.setIfInBounds_toArray, List.set_cons_zero, List.set_cons_succ, i64_w, i32_w]
    rfl
  refine pure_ (i := 9) (N := some 77) (v := ?_) (a' := ?_) (bl 21 1023) rfl rfl (by kernel_rfl) (fun _ _ _ h => h) (Or.inl ⟨by rfl, ?_⟩) ?_ ?_
  rotate_left
  · intro w'
    go_simp
    with_reducible rfl
  rotate_left
  · simp only [Act.put, List.setIfInBounds_toArray, List.set_cons_zero, List.set_cons_succ, i64_w, i32_w]
    rfl
  refine pure_ (i := 10) (N := some 78) (v := ?_) (a' := ?_) (bl 21 2047) rfl rfl (by kernel_rfl) (fun _ _ _ h => h) (Or.inl ⟨by rfl, ?_⟩) ?_ ?_
  rotate_left
  · intro w'
    go_simp
    with_reducible rfl
  rotate_left
  · simp only [Act.put, List.setIfInBounds_toArray, List.set_cons_zero, List.set_cons_succ, i64_w, i32_w]
    rfl
  refine take_ (i := 12) (N := some 80) (v := ?_) (a' := ?_) (bl 21 6143) rfl rfl (by kernel_rfl) (fun _ _ _ h => h) (Or.inl ⟨by rfl, ?_⟩) hHeld ?_ ?_
  rotate_left
  · rintro w' ⟨s0, s1, s2, s3⟩
    go_simp
    with_reducible rfl
  rotate_left
  · simp only [Act.put, List.setIfInBounds_toArray, List.set_cons_zero, List.set_cons_succ, i64_w, i32_w]
    rfl
  refine one_ (i := 11) (N := some 79) (bl 21 8191) rfl rfl (by kernel_rfl) (by decide) (fun K hK => ?_)
  refine goes_ Try.func33 (by kernel_rfl) rfl #[] (by rfl) rfl rfl (by (try simp only [List.map_toArray, List.map_cons, List.map_nil]); first | done | rfl) ?_
  with_reducible refine (empty_c _).mono ?_
  rintro e wv17 ⟨rfl, hb⟩
  refine ⟨_, rfl, ?_⟩
  have HN := Aside0.mk (HB.out.step hb)
  clear HB
  have HB := HN
  clear HN
  clear hb
  refine hK.out _ _ ⟨HB.out.c0 0 rfl, HB.out.c1 0 rfl, HB.out.c0 1 rfl, HB.out.c1 1 rfl⟩ (fun hHeld => ?_)
  clear hK K
  refine norm_ (a' := ?_) ?_ ?_
  rotate_left
  · show Act.put _ (some 79) _ = _
    simp only [Act.put, List.setIfInBounds_toArray, List.set_cons_zero, List.set_cons_succ, i64_w, i32_w]
    rfl
  refine one_ (i := 13) (N := some 81) (bl 21 16383) rfl rfl (by kernel_rfl) (by decide) (fun K hK => ?_)
  refine goes_ Try.func29 (by kernel_rfl) rfl #[.agg #[.int .i32 1, .int .i32 0], .agg #[.int .i32 a, .int .i32 b]] (by rfl) rfl rfl (by (try simp only [List.map_toArray, List.map_cons, List.map_nil]); first | done | rfl) ?_
  with_reducible refine (within_c 1 0 a b true hex.out _).mono ?_
  rintro e wv18 ⟨rfl, hb⟩
  refine ⟨_, rfl, ?_⟩
  have HN := Aside0.mk (HB.out.step hb)
  clear HB
  have HB := HN
  clear HN
  clear hb
  refine hK.out _ _ ⟨HB.out.c0 0 rfl, HB.out.c1 0 rfl, HB.out.c0 1 rfl, HB.out.c1 1 rfl⟩ (fun hHeld => ?_)
  clear hK K
  refine norm_ (a' := ?_) ?_ ?_
  rotate_left
  · show Act.put _ (some 81) _ = _
    simp only [Act.put, List.setIfInBounds_toArray, List.set_cons_zero, List.set_cons_succ, i64_w, i32_w]
    rfl
  refine pure_ (i := 14) (N := some 82) (v := ?_) (a' := ?_) (bl 21 32767) rfl rfl (by kernel_rfl) (fun _ _ _ h => h) (Or.inl ⟨by rfl, ?_⟩) ?_ ?_
  rotate_left
  · intro w'
    go_simp
    with_reducible rfl
  rotate_left
  · simp only [Act.put, List.setIfInBounds_toArray, List.set_cons_zero, List.set_cons_succ, i64_w, i32_w]
    rfl
  refine pure_ (i := 15) (N := some 83) (v := ?_) (a' := ?_) (bl 21 65535) rfl rfl (by kernel_rfl) (fun _ _ _ h => h) (Or.inl ⟨by rfl, ?_⟩) ?_ ?_
  rotate_left
  · intro w'
    go_simp
    with_reducible rfl
  rotate_left
  · simp only [Act.put, List.setIfInBounds_toArray, List.set_cons_zero, List.set_cons_succ, i64_w, i32_w]
    rfl
  refine take_ (i := 16) (N := some 84) (v := ?_) (a' := ?_) (bl 21 131071) rfl rfl (by kernel_rfl) (fun _ _ _ h => h) (Or.inl ⟨by rfl, ?_⟩) hHeld ?_ ?_
  rotate_left
  · rintro w' ⟨s0, s1, s2, s3⟩
    go_simp
    with_reducible rfl
  rotate_left
  · simp only [Act.put, List.setIfInBounds_toArray, List.set_cons_zero, List.set_cons_succ, i64_w, i32_w]
    rfl
  refine one_ (i := 17) (N := some 85) (bl 21 262143) rfl rfl (by kernel_rfl) (by decide) (fun K hK => ?_)
  refine goes_ Try.func42 (by kernel_rfl) rfl #[] (by rfl) rfl rfl (by (try simp only [List.map_toArray, List.map_cons, List.map_nil]); first | done | rfl) ?_
  with_reducible refine (full_c _).mono ?_
  rintro e wv19 ⟨rfl, hb⟩
  refine ⟨_, rfl, ?_⟩
  have HN := Aside0.mk (HB.out.step hb)
  clear HB
  have HB := HN
  clear HN
  clear hb
  refine hK.out _ _ ⟨HB.out.c0 0 rfl, HB.out.c1 0 rfl, HB.out.c0 1 rfl, HB.out.c1 1 rfl⟩ (fun hHeld => ?_)
  clear hK K
  refine norm_ (a' := ?_) ?_ ?_
  rotate_left
  · show Act.put _ (some 85) _ = _
    simp only [Act.put, List.setIfInBounds_toArray, List.set_cons_zero, List.set_cons_succ, i64_w, i32_w]
    rfl
  refine one_ (i := 18) (N := some 86) (bl 21 524287) rfl rfl (by kernel_rfl) (by decide) (fun K hK => ?_)
  refine goes_ Try.func29 (by kernel_rfl) rfl #[.agg #[.int .i32 a, .int .i32 b], .agg #[.int .i32 (-2147483648), .int .i32 2147483647]] (by rfl) rfl rfl (by (try simp only [List.map_toArray, List.map_cons, List.map_nil]); first | done | rfl) ?_
  with_reducible refine (within_c a b (-2147483648) 2147483647 true hxf.out _).mono ?_
  rintro e wv20 ⟨rfl, hb⟩
  refine ⟨_, rfl, ?_⟩
  have HN := Aside0.mk (HB.out.step hb)
  clear HB
  have HB := HN
  clear HN
  clear hb
  refine hK.out _ _ ⟨HB.out.c0 0 rfl, HB.out.c1 0 rfl, HB.out.c0 1 rfl, HB.out.c1 1 rfl⟩ (fun hHeld => ?_)
  clear hK K
  refine norm_ (a' := ?_) ?_ ?_
  rotate_left
  · show Act.put _ (some 86) _ = _
    simp only [Act.put, List.setIfInBounds_toArray, List.set_cons_zero, List.set_cons_succ, i64_w, i32_w]
    rfl
  refine pure_ (i := 19) (N := some 87) (v := ?_) (a' := ?_) (bl 21 1048575) rfl rfl (by kernel_rfl) (fun _ _ _ h => h) (Or.inl ⟨by rfl, ?_⟩) ?_ ?_
  rotate_left
  · intro w'
    go_simp
    with_reducible rfl
  rotate_left
  · simp only [Act.put, List.setIfInBounds_toArray, List.set_cons_zero, List.set_cons_succ, i64_w, i32_w]
    rfl
  refine pure_ (i := 20) (N := some 6) (v := ?_) (a' := ?_) (bl 21 2097151) rfl rfl (by kernel_rfl) (fun _ _ _ h => h) (Or.inl ⟨by rfl, ?_⟩) ?_ ?_
  rotate_left
  · intro w'
    go_simp
    with_reducible rfl
  rotate_left
  · simp only [Act.put, List.setIfInBounds_toArray, List.set_cons_zero, List.set_cons_succ, i64_w, i32_w]
    rfl
  refine done_ (by kernel_rfl) ?_
  have C := HB.out.cl
  simp only [Cl, and_true] at C
  obtain ⟨_, _, _, _, _, _, _, _⟩ := C
  go_wp2_with fail
  go_ret
  exact ⟨by first | rfl | (simp; done) | (simp [*]; done), HB.out.below⟩

theorem walk (a b c d n : Int) (w : World) (wa : (Lit.int .i32 a).wf = true) (wb : (Lit.int .i32 b).wf = true) (wc : (Lit.int .i32 c).wf = true) (wd : (Lit.int .i32 d).wf = true) (wn : (Lit.int .i32 n).wf = true) :
    Calls Try.prog 18 #[.agg #[.int .i32 a, .int .i32 b], .agg #[.int .i32 c, .int .i32 d], .int .i32 n] w fun e w' => e = .returned (.bool true) ∧ Below w.heap.size w w' := by
  have ha := i32_wf wa
  have hb := i32_wf wb
  have hn := i32_wf wn
  unfold I32 at ha hb hn
  have hxx : within a b a b = true := by unfold within; exact decide_eq_true (by omega)
  have hex : within 1 0 a b = true := by unfold within; exact decide_eq_true (by omega)
  have hxf : within a b (-2147483648) 2147483647 = true := by unfold within; exact decide_eq_true (by omega)
  have hf : hasv (-2147483648) 2147483647 n = true := by unfold hasv; exact decide_eq_true (by omega)
  have hem : hasv 1 0 n = false := by unfold hasv; exact decide_eq_false (by omega)
  by_cases e : b < a
  · have hw : within a b c d = true := by unfold within; exact decide_eq_true (by omega)
    exact walk0 a b c d n _ ⟨rfl⟩ ⟨decide_eq_true e⟩ (decide_eq_true e) ⟨hw⟩ ⟨hxx⟩ ⟨hex⟩ ⟨hxf⟩ ⟨hf⟩ ⟨hem⟩ w
  · by_cases k1 : c ≤ a ∧ a ≤ d
    · by_cases k2 : c ≤ b ∧ b ≤ d
      · have hw : within a b c d = true := by unfold within; exact decide_eq_true (by omega)
        exact walk3 a b c d n _ ⟨rfl⟩ ⟨decide_eq_false e⟩ (decide_eq_false e) ⟨hw⟩ ⟨hxx⟩ ⟨hex⟩ ⟨hxf⟩ ⟨hf⟩ ⟨hem⟩ ⟨decide_eq_true k1⟩ ⟨decide_eq_true k2⟩ w
      · have hw : within a b c d = false := by unfold within; exact decide_eq_false (by omega)
        exact walk2 a b c d n _ ⟨rfl⟩ ⟨decide_eq_false e⟩ (decide_eq_false e) ⟨hw⟩ ⟨hxx⟩ ⟨hex⟩ ⟨hxf⟩ ⟨hf⟩ ⟨hem⟩ ⟨decide_eq_true k1⟩ ⟨decide_eq_false k2⟩ w
    · have hw : within a b c d = false := by unfold within; exact decide_eq_false (by omega)
      exact walk1 a b c d n _ ⟨rfl⟩ ⟨decide_eq_false e⟩ (decide_eq_false e) ⟨hw⟩ ⟨hxx⟩ ⟨hex⟩ ⟨hxf⟩ ⟨hf⟩ ⟨hem⟩ ⟨decide_eq_false k1⟩ w

end Go.Proofs.Ytoalomjmmlnclaa.Sets
